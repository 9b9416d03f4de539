/- What this claim rests on, part 4: abstract values, walks of the code over them, what the functions come to; each under its theorem's own conditions. -/
import Derived.ChangeSame
import Derived.Deep.Fields
import Derived.Deep.Slices
import Derived.KernelRfl
import Derived.Test.YtdcabfonjmeajaaProg
import Derived.WideShapes
import Derived.Test.YtdcabfonjmeajaaAllocZ3
set_option linter.unusedVariables false
namespace Go.Proofs.Ytdcabfonjmeajaa.PAlloc
open Go.RowKit Go.Proofs.YtdcabfonjmeajaaW.PrintWords Go.Proofs.YtdcabfonjmeajaaW.PrintLast Go.Proofs.YtdcabfonjmeajaaW.PrintMore Go.Proofs.Ytdcabfonjmeajaa.Abs
structure S62 where
  f0 : Int
  f1 : Int
def z62 : S62 := ⟨(0 : Int), (0 : Int)⟩
def rd_T62 (xs : List S62) (i : Int) : S62 := xs.getD i.toNat z62
def eS62 (x : S62) : List AV := [.imm (.int .i64 x.f0), .imm (.int .i64 x.f1)]
abbrev vS62 (l : List S62) : AV := .sl l.length 2 (rowsE eS62 z62 l)
structure S59 where
  f0 : ByteArray
  f1 : Int
def z59 : S59 := ⟨(⟨#[]⟩ : ByteArray), (0 : Int)⟩
def rd_T59 (xs : List S59) (i : Int) : S59 := xs.getD i.toNat z59
def eS59 (x : S59) : List AV := [.imm (.string x.f0), .imm (.int .i64 x.f1)]
abbrev vS59 (l : List S59) : AV := .sl l.length 2 (rowsE eS59 z59 l)
structure S57 where
  f0 : Int
  f1 : Int
  f2 : (List S62)
  f3 : (List S59)
  f4 : Int
  f5 : Int
  f6 : Int
def z57 : S57 := ⟨(0 : Int), (0 : Int), ([] : List S62), ([] : List S59), (0 : Int), (0 : Int), (0 : Int)⟩
def rd_T57 (xs : List S57) (i : Int) : S57 := xs.getD i.toNat z57
def eS57 (x : S57) : List AV := [.imm (.int .i64 x.f0), .imm (.int .i64 x.f1), vS62 x.f2, vS59 x.f3, .imm (.int .i64 x.f4), .imm (.int .i64 x.f5), .imm (.int .i64 x.f6)]
abbrev vS57 (l : List S57) : AV := .sl l.length 7 (rowsE eS57 z57 l)
structure S41 where
  f0 : (List S57)
def z41 : S41 := ⟨([] : List S57)⟩
def rd_T41 (xs : List S41) (i : Int) : S41 := xs.getD i.toNat z41
def eS41 (x : S41) : List AV := [vS57 x.f0]
abbrev vS41 (l : List S41) : AV := .sl l.length 1 (rowsE eS41 z41 l)
structure S47 where
  f0 : Int
  f1 : Int
  f2 : Int
  f3 : ByteArray
def z47 : S47 := ⟨(0 : Int), (0 : Int), (0 : Int), (⟨#[]⟩ : ByteArray)⟩
def rd_T47 (xs : List S47) (i : Int) : S47 := xs.getD i.toNat z47
def eS47 (x : S47) : List AV := [.imm (.int .i64 x.f0), .imm (.int .i64 x.f1), .imm (.int .i64 x.f2), .imm (.string x.f3)]
abbrev vS47 (l : List S47) : AV := .sl l.length 4 (rowsE eS47 z47 l)
structure S66 where
  f0 : Int
  f1 : Int
  f2 : S57
def z66 : S66 := ⟨(0 : Int), (0 : Int), z57⟩
def rd_T66 (xs : List S66) (i : Int) : S66 := xs.getD i.toNat z66
def eS66 (x : S66) : List AV := [.imm (.int .i64 x.f0), .imm (.int .i64 x.f1), .imm (.int .i64 x.f2.f0), .imm (.int .i64 x.f2.f1), vS62 x.f2.f2, vS59 x.f2.f3, .imm (.int .i64 x.f2.f4), .imm (.int .i64 x.f2.f5), .imm (.int .i64 x.f2.f6)]
abbrev vS66 (l : List S66) : AV := .sl l.length 9 (rowsE eS66 z66 l)
noncomputable def tys : Tys := [(3, { kind := some .i64, zero := [.int .i64 0] }), (4, { bol := true, zero := [.bool false] }), (9, { str := true, zero := [.string ⟨#[]⟩] }), (22, { el := 41, elem := 1, eby := 24, zero := [.slice none 0 0] }), (24, { agg := true, size := 3, offs := [0, 1, 2], fsz := [1, 1, 1], zero := [.int .i64 0, .int .i64 0, .slice none 0 0] }), (39, { el := 57, elem := 7, eby := 88, zero := [.slice none 0 0] }), (41, { agg := true, size := 1, offs := [0], fsz := [1], zero := [.slice none 0 0] }), (42, { el := 47, elem := 4, eby := 40, zero := [.slice none 0 0] }), (47, { agg := true, size := 4, offs := [0, 1, 2, 3], fsz := [1, 1, 1, 1], zero := [.int .i64 0, .int .i64 0, .int .i64 0, .string ⟨#[]⟩] }), (54, { el := 62, elem := 2, eby := 16, zero := [.slice none 0 0] }), (55, { el := 59, elem := 2, eby := 24, zero := [.slice none 0 0] }), (57, { agg := true, size := 7, offs := [0, 1, 2, 3, 4, 5, 6], fsz := [1, 1, 1, 1, 1, 1, 1], zero := [.int .i64 0, .int .i64 0, .slice none 0 0, .slice none 0 0, .int .i64 0, .int .i64 0, .int .i64 0] }), (59, { agg := true, size := 2, offs := [0, 1], fsz := [1, 1], zero := [.string ⟨#[]⟩, .int .i64 0] }), (62, { agg := true, size := 2, offs := [0, 1], fsz := [1, 1], zero := [.int .i64 0, .int .i64 0] }), (63, { el := 66, elem := 9, eby := 104, zero := [.slice none 0 0] }), (66, { agg := true, size := 9, offs := [0, 1, 2], fsz := [1, 1, 7], zero := [.int .i64 0, .int .i64 0, .int .i64 0, .int .i64 0, .slice none 0 0, .slice none 0 0, .int .i64 0, .int .i64 0, .int .i64 0] }), (67, { el := 3, elem := 1, eby := 8, zero := [.slice none 0 0] }), (75, { zero := [.nilFunc] })]
theorem tysOK : TyOK Try.prog tys := .of (by kernel_rfl)
theorem mixed : Try.prog.follows .mixedOrders = true := by kernel_rfl
def glo : Glo := fun _ => .any
theorem argsX {l r : List AV} (h : ArgsOK l r := by repeat (first | exact ArgsOK.nil | (refine ArgsOK.same rfl ?_) | (refine ArgsOK.ref (Ref.own' (by first | rfl | (simp only [List.length_append, List.length_cons, List.length_nil] <;> omega) | (simp <;> omega)) (by first | exact fun _ _ => rfl | exact rows_snoc rfl | exact rows_nil | exact rows_one rfl | exact rows_two rfl rfl | exact rows_app (fun _ _ => rfl) rfl | exact rows_app (rows_one rfl) rfl | (refine rows_app2 ?_ (by first | rfl | (simp only [List.length_append, List.length_cons, List.length_nil] <;> omega) | (simp <;> omega)) ?_ rfl <;> (first | exact rows_one rfl | exact (fun _ _ => rfl) | (refine rows_app2 ?_ (by first | rfl | (simp only [List.length_append, List.length_cons, List.length_nil] <;> omega) | (simp <;> omega)) ?_ rfl <;> (first | exact rows_one rfl | exact (fun _ _ => rfl))))))) rfl ?_) | (refine ArgsOK.ref (Ref.sl' (by first | rfl | (simp only [List.length_append, List.length_cons, List.length_nil] <;> omega) | (simp <;> omega)) (by first | exact fun _ _ => rfl | exact rows_snoc rfl | exact rows_nil | exact rows_one rfl | exact rows_two rfl rfl | exact rows_app (fun _ _ => rfl) rfl | exact rows_app (rows_one rfl) rfl | (refine rows_app2 ?_ (by first | rfl | (simp only [List.length_append, List.length_cons, List.length_nil] <;> omega) | (simp <;> omega)) ?_ rfl <;> (first | exact rows_one rfl | exact (fun _ _ => rfl) | (refine rows_app2 ?_ (by first | rfl | (simp only [List.length_append, List.length_cons, List.length_nil] <;> omega) | (simp <;> omega)) ?_ rfl <;> (first | exact rows_one rfl | exact (fun _ _ => rfl))))))) rfl ?_) | (refine ArgsOK.ref (Ref.nil' rfl) rfl ?_))) : ArgsOK l r := h
theorem refX {a x : AV} (h : Ref a x := by repeat' (first | exact Ref.rfl' _ | exact RefL.nil | refine RefL.cons ?_ ?_ | refine Ref.tup ?_ | refine Ref.agg ?_ | exact Ref.own' (by first | rfl | (simp only [List.length_append, List.length_cons, List.length_nil] <;> omega) | (simp <;> omega)) (by first | exact fun _ _ => rfl | exact rows_snoc rfl | exact rows_nil | exact rows_one rfl | exact rows_two rfl rfl | exact rows_app (fun _ _ => rfl) rfl | exact rows_app (rows_one rfl) rfl | (refine rows_app2 ?_ (by first | rfl | (simp only [List.length_append, List.length_cons, List.length_nil] <;> omega) | (simp <;> omega)) ?_ rfl <;> (first | exact rows_one rfl | exact (fun _ _ => rfl) | (refine rows_app2 ?_ (by first | rfl | (simp only [List.length_append, List.length_cons, List.length_nil] <;> omega) | (simp <;> omega)) ?_ rfl <;> (first | exact rows_one rfl | exact (fun _ _ => rfl)))))) | exact Ref.nil' rfl | exact Ref.sl' (by first | rfl | (simp only [List.length_append, List.length_cons, List.length_nil] <;> omega) | (simp <;> omega)) (by first | exact fun _ _ => rfl | exact rows_snoc rfl | exact rows_nil | exact rows_one rfl | exact rows_two rfl rfl | exact rows_app (fun _ _ => rfl) rfl | exact rows_app (rows_one rfl) rfl | (refine rows_app2 ?_ (by first | rfl | (simp only [List.length_append, List.length_cons, List.length_nil] <;> omega) | (simp <;> omega)) ?_ rfl <;> (first | exact rows_one rfl | exact (fun _ _ => rfl) | (refine rows_app2 ?_ (by first | rfl | (simp only [List.length_append, List.length_cons, List.length_nil] <;> omega) | (simp <;> omega)) ?_ rfl <;> (first | exact rows_one rfl | exact (fun _ _ => rfl)))))) | refine Ref.one ?_ rfl)) : Ref a x := h
theorem leRX {l : List (Option Nat)} {fr fr' : Fr} {R R' : List Reg} (h : LeR l fr R fr' R' := by (with_reducible apply LeR.mk); (case frm => repeat (first | exact leR_none _ _ _ | (with_reducible exact leR_keep0) | (with_reducible refine leR_over0 ?_) | (with_reducible refine leR_keep ?_ ?_) | (with_reducible refine leR_over ?_ ?_) | exact RefX.st rfl (Ref.rfl' _) rfl | exact RefX.loc rfl rfl | exact RefX.nil rfl rfl | exact RefX.own rfl rfl (by first | rfl | (simp only [List.length_append, List.length_cons, List.length_nil] <;> omega) | (simp <;> omega)) (by first | exact fun _ _ => rfl | exact rows_snoc rfl | exact rows_nil | exact rows_one rfl | exact rows_two rfl rfl | exact rows_app (fun _ _ => rfl) rfl | exact rows_app (rows_one rfl) rfl | (refine rows_app2 ?_ (by first | rfl | (simp only [List.length_append, List.length_cons, List.length_nil] <;> omega) | (simp <;> omega)) ?_ rfl <;> (first | exact rows_one rfl | exact (fun _ _ => rfl) | (refine rows_app2 ?_ (by first | rfl | (simp only [List.length_append, List.length_cons, List.length_nil] <;> omega) | (simp <;> omega)) ?_ rfl <;> (first | exact rows_one rfl | exact (fun _ _ => rfl)))))) | exact RefX.st rfl (Ref.nil' rfl) rfl | exact RefX.sl (by first | rfl | (simp only [List.length_append, List.length_cons, List.length_nil] <;> omega) | (simp <;> omega)) (by first | exact fun _ _ => rfl | exact rows_snoc rfl | exact rows_nil | exact rows_one rfl | exact rows_two rfl rfl | exact rows_app (fun _ _ => rfl) rfl | exact rows_app (rows_one rfl) rfl | (refine rows_app2 ?_ (by first | rfl | (simp only [List.length_append, List.length_cons, List.length_nil] <;> omega) | (simp <;> omega)) ?_ rfl <;> (first | exact rows_one rfl | exact (fun _ _ => rfl) | (refine rows_app2 ?_ (by first | rfl | (simp only [List.length_append, List.length_cons, List.length_nil] <;> omega) | (simp <;> omega)) ?_ rfl <;> (first | exact rows_one rfl | exact (fun _ _ => rfl)))))) | exact RefX.st rfl (Ref.sl' (by first | rfl | (simp only [List.length_append, List.length_cons, List.length_nil] <;> omega) | (simp <;> omega)) (by first | exact fun _ _ => rfl | exact rows_snoc rfl | exact rows_nil | exact rows_one rfl | exact rows_two rfl rfl | exact rows_app (fun _ _ => rfl) rfl | exact rows_app (rows_one rfl) rfl | (refine rows_app2 ?_ (by first | rfl | (simp only [List.length_append, List.length_cons, List.length_nil] <;> omega) | (simp <;> omega)) ?_ rfl <;> (first | exact rows_one rfl | exact (fun _ _ => rfl) | (refine rows_app2 ?_ (by first | rfl | (simp only [List.length_append, List.length_cons, List.length_nil] <;> omega) | (simp <;> omega)) ?_ rfl <;> (first | exact rows_one rfl | exact (fun _ _ => rfl))))))) rfl)); (case reg => repeat (first | (with_reducible refine RegsX.cons ?_ ?_) | exact RegsX.nil | refine RegsX.cons ?_ ?_ | exact RegX.dead | exact RegX.arr rfl rfl (by first | rfl | (simp only [List.length_append, List.length_cons, List.length_nil] <;> omega) | (simp <;> omega)) | exact RegX.nil rfl | exact RegX.same1 rfl rfl rfl | (refine RegX.mat1 rfl rfl ?_; repeat (first | exact RefXL.nil | refine RefXL.cons ?_ ?_ | exact RefX.any _ | exact RefX.st rfl (Ref.rfl' _) rfl | exact RefX.loc rfl rfl | exact RefX.nil rfl rfl | exact RefX.own rfl rfl (by first | rfl | (simp only [List.length_append, List.length_cons, List.length_nil] <;> omega) | (simp <;> omega)) (by first | exact fun _ _ => rfl | exact rows_snoc rfl | exact rows_nil | exact rows_one rfl | exact rows_two rfl rfl | exact rows_app (fun _ _ => rfl) rfl | exact rows_app (rows_one rfl) rfl | (refine rows_app2 ?_ (by first | rfl | (simp only [List.length_append, List.length_cons, List.length_nil] <;> omega) | (simp <;> omega)) ?_ rfl <;> (first | exact rows_one rfl | exact (fun _ _ => rfl) | (refine rows_app2 ?_ (by first | rfl | (simp only [List.length_append, List.length_cons, List.length_nil] <;> omega) | (simp <;> omega)) ?_ rfl <;> (first | exact rows_one rfl | exact (fun _ _ => rfl)))))) | exact RefX.sl (by first | rfl | (simp only [List.length_append, List.length_cons, List.length_nil] <;> omega) | (simp <;> omega)) (by first | exact fun _ _ => rfl | exact rows_snoc rfl | exact rows_nil | exact rows_one rfl | exact rows_two rfl rfl | exact rows_app (fun _ _ => rfl) rfl | exact rows_app (rows_one rfl) rfl | (refine rows_app2 ?_ (by first | rfl | (simp only [List.length_append, List.length_cons, List.length_nil] <;> omega) | (simp <;> omega)) ?_ rfl <;> (first | exact rows_one rfl | exact (fun _ _ => rfl) | (refine rows_app2 ?_ (by first | rfl | (simp only [List.length_append, List.length_cons, List.length_nil] <;> omega) | (simp <;> omega)) ?_ rfl <;> (first | exact rows_one rfl | exact (fun _ _ => rfl)))))))))); (case inj => rfl)) : LeR l fr R fr' R' := h
theorem cmpX {G : Glo} {fr : Fr} {o : Op} {p : Prop} (h : CmpA G fr o p := by first | exact CmpA.lss rfl rfl | exact CmpA.leq rfl rfl | exact CmpA.gtr rfl rfl | exact CmpA.geq rfl rfl | exact CmpA.eql rfl rfl | exact CmpA.neq rfl rfl | exact CmpA.seq rfl rfl | exact CmpA.sne rfl rfl) : CmpA G fr o p := h
theorem valX {tys : Tys} {G : Glo} {fr : Fr} {o : Op} {x : AV} (h : ValA tys G fr o x := by first | exact ValA.bin (BinA.mul rfl rfl) | exact ValA.bin (BinA.add8 rfl rfl) | exact ValA.bin (BinA.sub8 rfl rfl) | exact ValA.bin (BinA.mul8 rfl rfl) | exact ValA.bin (BinA.addK rfl rfl) | exact ValA.bin (BinA.subK rfl rfl) | exact ValA.bin (BinA.mulK rfl rfl) | exact ValA.bin (BinA.bits rfl rfl rfl) | exact ValA.bin (BinA.shl rfl rfl (by first | assumption | omega)) | exact ValA.bin (BinA.shr rfl rfl (by first | assumption | omega)) | exact ValA.bin (BinA.quo64 rfl rfl (by first | assumption | decide)) | exact ValA.bin (BinA.quo rfl rfl (by first | assumption | decide)) | exact ValA.bin (BinA.rem rfl rfl (by first | assumption | decide)) | exact ValA.bin (BinA.cat rfl rfl (by first | assumption | omega)) | exact ValA.bin (BinA.neg rfl) | exact ValA.idxS rfl rfl rfl (by first | assumption | omega) (by first | assumption | omega) | exact ValA.beqB rfl rfl rfl | exact ValA.bneB rfl rfl rfl) : ValA tys G fr o x := h
end Go.Proofs.Ytdcabfonjmeajaa.PAlloc
set_option linter.unusedVariables false
set_option linter.unusedSimpArgs false
namespace Go.Proofs.Ytdcabfonjmeajaa.Abs
open Go.RowKit Go.Deep
/-- Cells that stand for abstract values, in a whole world. -/
structure RepL (w : World) (l : List AV) (vs : List Value) : Prop where
  len : vs.length = l.length
  one : ∀ v ∈ vs, v.oneCell' = true
  rep : ∀ (i : Nat) (a : AV) (v : Value), l[i]? = some a → vs[i]? = some v → Rep0 (fun ad => w.cell? ad) a v
theorem RepL.single {w : World} {a : AV} {v : Value} (h : Rep0 (fun ad => w.cell? ad) a v) (h1 : v.oneCell' = true) : RepL w [a] [v] :=
  ⟨rfl, fun u hu => by simp at hu; subst hu; exact h1, fun i x u p q => by
    cases i with
    | zero => simp at p q; subst p; subst q; exact h
    | succ i => simp at p⟩
theorem RepL.append {w : World} {l l' : List AV} {vs vs' : List Value} (h : RepL w l vs) (t : RepL w l' vs') : RepL w (l ++ l') (vs ++ vs') :=
  ⟨by simp [h.len, t.len], fun u hu => (List.mem_append.1 hu).elim (h.one u) (t.one u), fun i a v p q => by
    by_cases hi : i < l.length
    · rw [List.getElem?_append_left hi] at p
      rw [List.getElem?_append_left (by rw [h.len]; exact hi)] at q
      exact h.rep i a v p q
    · rw [List.getElem?_append_right (by omega)] at p
      rw [List.getElem?_append_right (by rw [h.len]; omega), h.len] at q
      exact t.rep _ a v p q⟩
/-- Cells that are read as data of a type stand for an element, of which F holds. -/
def RaT {α : Type} (e : α → List AV) (F : α → Prop) (w : World) (cs : List Value) : Prop := ∃ a : α, RepL w (e a) cs ∧ F a
def Ra (P : Program) {α : Type} (e : α → List AV) (F : α → Prop) (t : TypeId) : Prop :=
  ∀ (H : Type) (enc : TypeId × Value → H) (w : World) (fuel : Nat) (cs : List Value) (x : DataW H × List MemPlace), DataW.trod enc P w 0 (fun _ => true) true fuel t cs = some x → RaT e F w cs
section
variable {P : Program} {α β : Type} {d : α → List AV} {d2 : β → List AV} {F : α → Prop} {F2 : β → Prop} {t e : TypeId} {w : World} {cs : List Value}
theorem ra_int {k : IntKind} (ht : P.underlying t = some (.int k)) : Ra P (eInt k) (fun n => (Lit.int k n).wf = true) t := by
  intro H enc w fuel cs x h
  obtain ⟨n, rfl, _, hw⟩ := DataW.trod_int ht h
  exact ⟨n, .single (.imm _) rfl, hw⟩
theorem ra_string (ht : P.underlying t = some .string) : Ra P eStr (fun s => s.size ≤ maxLen) t := by
  intro H enc w fuel cs x h
  obtain ⟨n, rfl, _, hw⟩ := DataW.trod_string ht h
  exact ⟨n, .single (.imm _) rfl, hw⟩
theorem ra_slice {sz : Nat} {z : α} (ht : P.underlying t = some (.slice e)) (hC : P.cellsOf e = sz) (hl : ∀ a, (d a).length = sz) (hr : Ra P d F e) : Ra P (fun l : List α => [AV.sl l.length sz (rowsE d z l)]) (fun xs => xs.length ≤ maxLen ∧ ∀ x ∈ xs, F x) t := by
  intro H enc w fuel cs x h
  rcases open_slice ht h with ⟨rfl, _⟩ | ⟨a, len, cap, m, n, D, Pl, rfl, _, hlen, hm, hmm, _, hi⟩
  · exact ⟨[], .single (.sl 0 sz _ none 0 default (fun _ => []) (Nat.le_refl _) (fun h => by omega) (fun j h => by omega) (fun j h => by omega) (fun j i v h => by omega) (fun j i a v h => by omega)) rfl, by simp [maxLen], fun x hx => by simp at hx⟩
  · have hcap : m = cap := by rw [hmm]; rfl
    have hex : ∀ i : _root_.Fin len, ∃ (p : α × List Value), RepL w (d p.1) p.2 ∧ F p.1 ∧ ∀ j u, p.2[j]? = some u → w.cell? (a.add (i.val * sz + j)) = some u := by
      intro i
      obtain ⟨c, hc, htr⟩ := hi i.val (by omega)
      obtain ⟨p, hp, hF⟩ := hr H enc w n c _ htr
      obtain ⟨_, hcl, hat⟩ := World.cells?_some hc
      refine ⟨(p, c), hp, hF, fun j u hj => ?_⟩
      have hjl : j < c.length := (List.getElem?_eq_some_iff.1 hj).1
      have := hat j (by omega)
      rw [hj, hC, Go.Deep.add_add] at this
      exact this
    let f : _root_.Fin len → α × List Value := fun i => Classical.choose (hex i)
    have hf : ∀ i : _root_.Fin len, RepL w (d (f i).1) (f i).2 ∧ F (f i).1 ∧ ∀ j u, (f i).2[j]? = some u → w.cell? (a.add (i.val * sz + j)) = some u := fun i => Classical.choose_spec (hex i)
    have hlen2 : (List.ofFn fun i => (f i).1).length = len := by simp
    have hget : ∀ j (hj : j < len), (List.ofFn fun i => (f i).1).getD j z = (f ⟨j, hj⟩).1 := fun j hj => by
      rw [List.getD_eq_getElem?_getD, List.getElem?_eq_getElem (by simpa using hj), Option.getD_some, List.getElem_ofFn]
    refine ⟨List.ofFn fun i => (f i).1, .single ?_ rfl, by omega, fun x hx => ?_⟩
    · rw [hlen2]
      refine .sl len sz _ (some a) cap a (fun j => if hj : j < len then (f ⟨j, hj⟩).2 else []) (by omega) (fun _ => rfl) (fun j hj => ⟨hl _, ?_⟩) (fun j hj v hv => ?_) (fun j i v hj hv => ?_) (fun j i x v hj hx hv => ?_)
      · rw [dif_pos hj, (hf ⟨j, hj⟩).1.len, hl]
      · rw [dif_pos hj] at hv; exact (hf ⟨j, hj⟩).1.one v hv
      · rw [dif_pos hj] at hv; exact (hf ⟨j, hj⟩).2.2 i v hv
      · rw [dif_pos hj] at hv
        unfold rowsE at hx
        rw [hget j hj] at hx
        exact (hf ⟨j, hj⟩).1.rep i x v hx hv
    · obtain ⟨i, rfl⟩ := List.mem_ofFn.1 hx
      exact (hf i).2.1
/-! A struct: its fields' cells, one behind the other. -/
theorem rat_field {H : Type} {enc : TypeId × Value → H} {n : Nat} {xs : List (DataW H × List MemPlace)} {fs : Array Field} (hl : xs.length = fs.size)
    (hf : ∀ (i : Nat) (f : Field), fs[i]? = some f → DataW.trod enc P w 0 (fun _ => true) true n f.type ((cs.drop f.offset).take (P.cellsOf f.type)) = xs[i]?)
    (i : Nat) (f : Field) (hi : fs[i]? = some f) (o s : Nat) (ho : f.offset = o) (hs : P.cellsOf f.type = s) (hr : Ra P d F f.type) : RaT d F w ((cs.drop o).take s) := by
  have hil : i < fs.size := (Array.getElem?_eq_some_iff.1 hi).1
  have h := hf i f hi
  rw [List.getElem?_eq_getElem (by omega), ho, hs] at h
  exact hr H enc w n _ _ h
theorem rat_cons (o s : Nat) (h1 : RaT d F w ((cs.drop o).take s)) (h2 : RaT d2 F2 w (cs.drop (o + s))) : RaT (fun x : α × β => d x.1 ++ d2 x.2) (fun x => F x.1 ∧ F2 x.2) w (cs.drop o) := by
  obtain ⟨a, ha, hF⟩ := h1
  obtain ⟨b, hb, hG⟩ := h2
  refine ⟨(a, b), ?_, hF, hG⟩
  have := ha.append hb
  rw [← List.drop_drop, List.take_append_drop] at this
  exact this
theorem rat_last (o s : Nat) (hl : cs.length = o + s) (h1 : RaT d F w ((cs.drop o).take s)) : RaT d F w (cs.drop o) := by
  rw [List.take_of_length_le (by rw [List.length_drop]; omega)] at h1
  exact h1
theorem rat_iso {e : β → List AV} {F' : β → Prop} (g : α → β) (he : ∀ a, e (g a) = d a) (hF : ∀ a, F a → F' (g a)) (h : RaT d F w cs) : RaT e F' w cs := by
  obtain ⟨a, ha, h⟩ := h
  exact ⟨g a, by rw [he]; exact ha, hF a h⟩
end
/-- A law's answer, from what its parameters are read as. -/
theorem CallOK.law {P : Program} {G : Glo} {f : FuncId} {args : List AV} (h : CallOK P G f args (.imm (.bool true))) {w : World} {vs : List Value} (hg : GloOK G (fun ad => w.cell? ad)) (hl : vs.length = args.length) (hv : ∀ (i : Nat) (a : AV) (v : Value), args[i]? = some a → vs[i]? = some v → Rep0 (fun ad => w.cell? ad) a v) :
    Calls P f vs.toArray w fun e w' => e = .returned (.bool true) ∧ Below w.heap.size w w' := by
  refine (h.run w (fun ad => w.cell? ad) vs (fun ad v h => h) hg hl hv).mono ?_
  rintro e w' ⟨v, V', rfl, hgr, hx⟩
  obtain rfl := hx.imm_inv
  exact ⟨rfl, hgr.bel.below⟩
theorem arg_agg {w : World} {l : List AV} {cs : Array Value} (h : RepL w l cs.toList) : Rep0 (fun ad => w.cell? ad) (.agg l) (.agg cs) := .agg l cs.toList h.len h.one h.rep
theorem arg_one {w : World} {a : AV} {v : Value} (h : RepL w [a] [v]) : Rep0 (fun ad => w.cell? ad) a v := h.rep 0 a v rfl rfl
theorem Rep0.sl_len {V : View} {n m sz : Nat} {row : Nat → List AV} {A : Option Addr} {c : Nat} (h : Rep0 V (.sl n sz row) (.slice A m c)) : m = n := by
  obtain ⟨_, _, _, _, e, _⟩ := h.sl_inv
  injection e
theorem reps_nil {V : View} : ∀ (i : Nat) (a : AV) (v : Value), ([] : List AV)[i]? = some a → ([] : List Value)[i]? = some v → Rep0 V a v := fun i a v h => by simp at h
theorem reps_cons {V : View} {a : AV} {v : Value} {l : List AV} {vs : List Value} (h : Rep0 V a v) (t : ∀ (i : Nat) (a : AV) (v : Value), l[i]? = some a → vs[i]? = some v → Rep0 V a v) : ∀ (i : Nat) (b : AV) (u : Value), (a :: l)[i]? = some b → (v :: vs)[i]? = some u → Rep0 V b u
  | 0, b, u, p, q => by simp at p q; subst p; subst q; exact h
  | i + 1, b, u, p, q => t i b u (by simpa using p) (by simpa using q)
end Go.Proofs.Ytdcabfonjmeajaa.Abs
set_option linter.unusedVariables false
set_option linter.unusedSimpArgs false
namespace Go.Proofs.Ytdcabfonjmeajaa.PAlloc
open Go.RowKit Go.Proofs.YtdcabfonjmeajaaW.PrintWords Go.Proofs.YtdcabfonjmeajaaW.PrintLast Go.Proofs.YtdcabfonjmeajaaW.PrintMore Go.Proofs.Ytdcabfonjmeajaa.Abs
open Go.Deep
structure S24 where
  f0 : Int
  f1 : Int
  f2 : List (S41)
def z24 : S24 := ⟨(0 : Int), (0 : Int), ([] : List (S41))⟩
def eS24 (x : S24) : List AV := [.imm (.int .i64 x.f0), .imm (.int .i64 x.f1), vS41 x.f2]
def ok62 (x : S62) : Prop := (fun n : Int => (Lit.int .i64 n).wf = true) x.f0 ∧ (fun n : Int => (Lit.int .i64 n).wf = true) x.f1
set_option maxRecDepth 100000 in
theorem ra62 : Ra Try.prog eS62 ok62 62 := by
  intro H enc w fuel cs x h
  obtain ⟨xs, n, _, _, hl, hlen, hf⟩ := DataW.trod_struct Try.underlying62 h
  have hC : Try.prog.cellsOf 62 = 2 := by kernel_rfl
  rw [hC] at hl
  exact rat_iso (g := fun p : Int × Int => (⟨p.1, p.2⟩ : S62)) (fun a => rfl) (fun a h => h) (rat_cons 0 1 (rat_field hlen hf 0 _ rfl 0 1 rfl (by kernel_rfl) (ra_int Try.underlying3)) (rat_last 1 1 (by omega) (rat_field hlen hf 1 _ rfl 1 1 rfl (by kernel_rfl) (ra_int Try.underlying3))))
def ok59 (x : S59) : Prop := (fun s : ByteArray => s.size ≤ maxLen) x.f0 ∧ (fun n : Int => (Lit.int .i64 n).wf = true) x.f1
set_option maxRecDepth 100000 in
theorem ra59 : Ra Try.prog eS59 ok59 59 := by
  intro H enc w fuel cs x h
  obtain ⟨xs, n, _, _, hl, hlen, hf⟩ := DataW.trod_struct Try.underlying59 h
  have hC : Try.prog.cellsOf 59 = 2 := by kernel_rfl
  rw [hC] at hl
  exact rat_iso (g := fun p : ByteArray × Int => (⟨p.1, p.2⟩ : S59)) (fun a => rfl) (fun a h => h) (rat_cons 0 1 (rat_field hlen hf 0 _ rfl 0 1 rfl (by kernel_rfl) (ra_string Try.underlying9)) (rat_last 1 1 (by omega) (rat_field hlen hf 1 _ rfl 1 1 rfl (by kernel_rfl) (ra_int Try.underlying3))))
def ok57 (x : S57) : Prop := (fun n : Int => (Lit.int .i64 n).wf = true) x.f0 ∧ (fun n : Int => (Lit.int .i64 n).wf = true) x.f1 ∧ (fun xs : List (S62) => xs.length ≤ maxLen ∧ ∀ x ∈ xs, ok62 x) x.f2 ∧ (fun xs : List (S59) => xs.length ≤ maxLen ∧ ∀ x ∈ xs, ok59 x) x.f3 ∧ (fun n : Int => (Lit.int .i64 n).wf = true) x.f4 ∧ (fun n : Int => (Lit.int .i64 n).wf = true) x.f5 ∧ (fun n : Int => (Lit.int .i64 n).wf = true) x.f6
set_option maxRecDepth 100000 in
theorem ra57 : Ra Try.prog eS57 ok57 57 := by
  intro H enc w fuel cs x h
  obtain ⟨xs, n, _, _, hl, hlen, hf⟩ := DataW.trod_struct Try.underlying57 h
  have hC : Try.prog.cellsOf 57 = 7 := by kernel_rfl
  rw [hC] at hl
  exact rat_iso (g := fun p : Int × Int × List (S62) × List (S59) × Int × Int × Int => (⟨p.1, p.2.1, p.2.2.1, p.2.2.2.1, p.2.2.2.2.1, p.2.2.2.2.2.1, p.2.2.2.2.2.2⟩ : S57)) (fun a => rfl) (fun a h => h) (rat_cons 0 1 (rat_field hlen hf 0 _ rfl 0 1 rfl (by kernel_rfl) (ra_int Try.underlying3)) (rat_cons 1 1 (rat_field hlen hf 1 _ rfl 1 1 rfl (by kernel_rfl) (ra_int Try.underlying3)) (rat_cons 2 1 (rat_field hlen hf 2 _ rfl 2 1 rfl (by kernel_rfl) (ra_slice (d := eS62) (sz := 2) (z := z62) Try.underlying54 (by kernel_rfl) (fun _ => rfl) ra62)) (rat_cons 3 1 (rat_field hlen hf 3 _ rfl 3 1 rfl (by kernel_rfl) (ra_slice (d := eS59) (sz := 2) (z := z59) Try.underlying55 (by kernel_rfl) (fun _ => rfl) ra59)) (rat_cons 4 1 (rat_field hlen hf 4 _ rfl 4 1 rfl (by kernel_rfl) (ra_int Try.underlying3)) (rat_cons 5 1 (rat_field hlen hf 5 _ rfl 5 1 rfl (by kernel_rfl) (ra_int Try.underlying3)) (rat_last 6 1 (by omega) (rat_field hlen hf 6 _ rfl 6 1 rfl (by kernel_rfl) (ra_int Try.underlying3)))))))))
def ok41 (x : S41) : Prop := (fun xs : List (S57) => xs.length ≤ maxLen ∧ ∀ x ∈ xs, ok57 x) x.f0
set_option maxRecDepth 100000 in
theorem ra41 : Ra Try.prog eS41 ok41 41 := by
  intro H enc w fuel cs x h
  obtain ⟨xs, n, _, _, hl, hlen, hf⟩ := DataW.trod_struct Try.underlying41 h
  have hC : Try.prog.cellsOf 41 = 1 := by kernel_rfl
  rw [hC] at hl
  exact rat_iso (g := fun p : List (S57) => (⟨p⟩ : S41)) (fun a => rfl) (fun a h => h) (rat_last 0 1 (by omega) (rat_field hlen hf 0 _ rfl 0 1 rfl (by kernel_rfl) (ra_slice (d := eS57) (sz := 7) (z := z57) Try.underlying39 (by kernel_rfl) (fun _ => rfl) ra57)))
def ok24 (x : S24) : Prop := (fun n : Int => (Lit.int .i64 n).wf = true) x.f0 ∧ (fun n : Int => (Lit.int .i64 n).wf = true) x.f1 ∧ (fun xs : List (S41) => xs.length ≤ maxLen ∧ ∀ x ∈ xs, ok41 x) x.f2
set_option maxRecDepth 100000 in
theorem ra24 : Ra Try.prog eS24 ok24 24 := by
  intro H enc w fuel cs x h
  obtain ⟨xs, n, _, _, hl, hlen, hf⟩ := DataW.trod_struct Try.underlying24 h
  have hC : Try.prog.cellsOf 24 = 3 := by kernel_rfl
  rw [hC] at hl
  exact rat_iso (g := fun p : Int × Int × List (S41) => (⟨p.1, p.2.1, p.2.2⟩ : S24)) (fun a => rfl) (fun a h => h) (rat_cons 0 1 (rat_field hlen hf 0 _ rfl 0 1 rfl (by kernel_rfl) (ra_int Try.underlying3)) (rat_cons 1 1 (rat_field hlen hf 1 _ rfl 1 1 rfl (by kernel_rfl) (ra_int Try.underlying3)) (rat_last 2 1 (by omega) (rat_field hlen hf 2 _ rfl 2 1 rfl (by kernel_rfl) (ra_slice (d := eS41) (sz := 1) (z := z41) Try.underlying22 (by kernel_rfl) (fun _ => rfl) ra41)))))
def ok47 (x : S47) : Prop := (fun n : Int => (Lit.int .i64 n).wf = true) x.f0 ∧ (fun n : Int => (Lit.int .i64 n).wf = true) x.f1 ∧ (fun n : Int => (Lit.int .i64 n).wf = true) x.f2 ∧ (fun s : ByteArray => s.size ≤ maxLen) x.f3
set_option maxRecDepth 100000 in
theorem ra47 : Ra Try.prog eS47 ok47 47 := by
  intro H enc w fuel cs x h
  obtain ⟨xs, n, _, _, hl, hlen, hf⟩ := DataW.trod_struct Try.underlying47 h
  have hC : Try.prog.cellsOf 47 = 4 := by kernel_rfl
  rw [hC] at hl
  exact rat_iso (g := fun p : Int × Int × Int × ByteArray => (⟨p.1, p.2.1, p.2.2.1, p.2.2.2⟩ : S47)) (fun a => rfl) (fun a h => h) (rat_cons 0 1 (rat_field hlen hf 0 _ rfl 0 1 rfl (by kernel_rfl) (ra_int Try.underlying3)) (rat_cons 1 1 (rat_field hlen hf 1 _ rfl 1 1 rfl (by kernel_rfl) (ra_int Try.underlying3)) (rat_cons 2 1 (rat_field hlen hf 2 _ rfl 2 1 rfl (by kernel_rfl) (ra_int Try.underlying3)) (rat_last 3 1 (by omega) (rat_field hlen hf 3 _ rfl 3 1 rfl (by kernel_rfl) (ra_string Try.underlying9))))))
end Go.Proofs.Ytdcabfonjmeajaa.PAlloc
set_option linter.unusedVariables false
set_option linter.unusedSimpArgs false
namespace Go.Proofs.Ytdcabfonjmeajaa.PAlloc
open Go.RowKit Go.Proofs.YtdcabfonjmeajaaW.PrintWords Go.Proofs.YtdcabfonjmeajaaW.PrintLast Go.Proofs.YtdcabfonjmeajaaW.PrintMore Go.Proofs.Ytdcabfonjmeajaa.Abs
/-! ### boarderlaw13_Great: function 14 -/
mutual
def boarderlaw13_Great.l0 : Nat → Int → Int → Int → List (S41) → Option (Bool)
  | 0, _, _, _, _ => none
  | k + 1, x3, x102000, x102001, x102002 => if x3 < (x102002.length : Int) then (if 0 ≤ x3 then (if (((rd_T41 x102002 x3).f0).length : Int) > 10 then (some true) else (boarderlaw13_Great.l1 k x3 0 x102000 x102001 x102002)) else (none)) else (some false)
def boarderlaw13_Great.l1 : Nat → Int → Int → Int → Int → List (S41) → Option (Bool)
  | 0, _, _, _, _, _ => none
  | k + 1, x3, x4, x102000, x102001, x102002 => if 0 ≤ x3 then (if x3 < (x102002.length : Int) then (if x4 < (((rd_T41 x102002 x3).f0).length : Int) then (if 0 ≤ x4 then (if (((rd_T57 ((rd_T41 x102002 x3).f0) x4).f2).length : Int) > 20 then (boarderlaw13_Great.j2 k x3 x4 true x102000 x102001 x102002 ((rd_T57 ((rd_T41 x102002 x3).f0) x4).f0) ((rd_T57 ((rd_T41 x102002 x3).f0) x4).f1) ((rd_T57 ((rd_T41 x102002 x3).f0) x4).f2) ((rd_T57 ((rd_T41 x102002 x3).f0) x4).f3) ((rd_T57 ((rd_T41 x102002 x3).f0) x4).f4) ((rd_T57 ((rd_T41 x102002 x3).f0) x4).f5) ((rd_T57 ((rd_T41 x102002 x3).f0) x4).f6)) else (boarderlaw13_Great.j2 k x3 x4 (decide ((((rd_T57 ((rd_T41 x102002 x3).f0) x4).f3).length : Int) > 20)) x102000 x102001 x102002 ((rd_T57 ((rd_T41 x102002 x3).f0) x4).f0) ((rd_T57 ((rd_T41 x102002 x3).f0) x4).f1) ((rd_T57 ((rd_T41 x102002 x3).f0) x4).f2) ((rd_T57 ((rd_T41 x102002 x3).f0) x4).f3) ((rd_T57 ((rd_T41 x102002 x3).f0) x4).f4) ((rd_T57 ((rd_T41 x102002 x3).f0) x4).f5) ((rd_T57 ((rd_T41 x102002 x3).f0) x4).f6))) else (none)) else (boarderlaw13_Great.l0 k (wrap64 (x3 + 1)) x102000 x102001 x102002)) else (none)) else (none)
def boarderlaw13_Great.j2 : Nat → Int → Int → Bool → Int → Int → List (S41) → Int → Int → List (S62) → List (S59) → Int → Int → Int → Option (Bool)
  | 0, _, _, _, _, _, _, _, _, _, _, _, _, _ => none
  | k + 1, x3, x4, x55, x102000, x102001, x102002, x107000, x107001, x107002, x107003, x107004, x107005, x107006 => if x55 = true then (some true) else (boarderlaw13_Great.l2 k x3 x4 0 x102000 x102001 x102002 x107000 x107001 x107002 x107003 x107004 x107005 x107006)
def boarderlaw13_Great.l2 : Nat → Int → Int → Int → Int → Int → List (S41) → Int → Int → List (S62) → List (S59) → Int → Int → Int → Option (Bool)
  | 0, _, _, _, _, _, _, _, _, _, _, _, _, _ => none
  | k + 1, x3, x4, x6, x102000, x102001, x102002, x107000, x107001, x107002, x107003, x107004, x107005, x107006 => if x6 < (x107003.length : Int) then (if 0 ≤ x6 then (if (((rd_T59 x107003 x6).f0).size : Int) > 1000 then (some true) else (boarderlaw13_Great.l2 k x3 x4 (wrap64 (x6 + 1)) x102000 x102001 x102002 x107000 x107001 x107002 x107003 x107004 x107005 x107006)) else (none)) else (boarderlaw13_Great.l1 k x3 (wrap64 (x4 + 1)) x102000 x102001 x102002)
end
def boarderlaw13_Great.f (k : Nat) (a0_0 : Int) (a0_1 : Int) (l0_2 : List (S41)) : Option (Bool) := if (l0_2.length : Int) > 10 then (some true) else (boarderlaw13_Great.l0 k 0 a0_0 a0_1 l0_2)
noncomputable def boarderlaw13_Great.cx : Cx := ⟨Try.prog, tys, glo, 71, Try.f14, [.tmp 2]⟩
set_option maxHeartbeats 16000000 in
set_option maxRecDepth 100000 in
theorem boarderlaw13_Great.ok {k : Nat} {a0_0 : Int} {a0_1 : Int} {l0_2 : List (S41)} {r0 : Bool} (H : boarderlaw13_Great.f k a0_0 a0_1 l0_2 = some r0) : CallOK Try.prog glo 14 [.agg [.imm (.int .i64 a0_0), .imm (.int .i64 a0_1), vS41 l0_2]] (.imm (.bool r0)) := by
  unfold boarderlaw13_Great.f at H
  refine CallOK.of (c := boarderlaw13_Great.cx) Try.func14 (show (boarderlaw13_Great.cx).fn.body = some _ from rfl) rfl rfl (Nat.le_of_ble_eq_true rfl) ?_
  repeat' (first
    | ((with_reducible have hJ : boarderlaw13_Great.j2 k _ _ _ _ _ _ _ _ _ _ _ _ _ = some _ := H); clear hJ; (rcases k with _ | k); (rw [boarderlaw13_Great.j2] at H; cases H); (rw [boarderlaw13_Great.j2] at H))
    | ((with_reducible have hJ : boarderlaw13_Great.j2 k0 _ _ _ _ _ _ _ _ _ _ _ _ _ = some _ := H); clear hJ; (rcases k0 with _ | k0); (rw [boarderlaw13_Great.j2] at H; cases H); (rw [boarderlaw13_Great.j2] at H))
    | ((with_reducible have hJ : boarderlaw13_Great.j2 k1 _ _ _ _ _ _ _ _ _ _ _ _ _ = some _ := H); clear hJ; (rcases k1 with _ | k1); (rw [boarderlaw13_Great.j2] at H; cases H); (rw [boarderlaw13_Great.j2] at H))
    | ((with_reducible have hJ : boarderlaw13_Great.j2 k2 _ _ _ _ _ _ _ _ _ _ _ _ _ = some _ := H); clear hJ; (rcases k2 with _ | k2); (rw [boarderlaw13_Great.j2] at H; cases H); (rw [boarderlaw13_Great.j2] at H))
    | ((with_reducible replace H := some_ite H); obtain ⟨_, H⟩ := H)
    | (with_reducible replace H := true_ite H)
    | (with_reducible replace H := false_ite H)
    | ((with_reducible have hb := bool_ite H); clear H; rcases hb with ⟨e_, H⟩ | ⟨e_, H⟩ <;> subst e_)
    | ((with_reducible apply ROps.pure); (case hop => rfl); (case hw => rfl); (case hdst => rfl); (case hd => rfl))
    | (with_reducible apply ROps.nil)
    | (with_reducible apply Runs.seq)
    | (with_reducible apply Runs.region tysOK)
    | (with_reducible apply Runs.block)
    | (with_reducible apply Runs.skip)
    | (with_reducible apply Runs.inBlock)
    | (with_reducible apply Runs.scope)
    | (with_reducible apply Runs.inScope)
    | (with_reducible apply Runs.label)
    | ((with_reducible apply Runs.condT); (case ho => rfl))
    | ((with_reducible apply Runs.condF); (case ho => rfl))
    | ((with_reducible apply Runs.exit); (case he => rfl))
    | ((with_reducible apply ROps.store); (case hop => rfl); (all_goals try rfl))
    | ((with_reducible apply ROps.cmp); (case hop => exact cmpX); (case hw => rfl); (case hdst => rfl); (case hd => rfl); (all_goals (intro h; first | (replace H := ite_pos_ h H) | (replace H := ite_neg_ h H) | (replace H := dec_pos h H) | (replace H := dec_neg h H) | (replace H := dec_t h H) | (replace H := dec_f h H) | (replace H := ite_pos_ (Decidable.not_not.1 h) H) | ((try simp only [rd_T41, rd_T57, rd_T59, rdOf] at h); (try simp only [rd_T41, rd_T57, rd_T59, rdOf] at H); (rw [decide_eq_true h] at H)) | ((try simp only [rd_T41, rd_T57, rd_T59, rdOf] at h); (try simp only [rd_T41, rd_T57, rd_T59, rdOf] at H); (rw [decide_eq_false h] at H)) | ((try simp only [rd_T41, rd_T57, rd_T59, rdOf] at h); (try simp only [rd_T41, rd_T57, rd_T59, rdOf] at H); (rw [if_pos h] at H)) | ((try simp only [rd_T41, rd_T57, rd_T59, rdOf] at h); (try simp only [rd_T41, rd_T57, rd_T59, rdOf] at H); (rw [if_neg h] at H)) | contradiction | skip)))
    | ((with_reducible apply ROps.val); (case hop => exact valX); (case hw => rfl); (case hdst => rfl); (case hd => rfl))
    | ((with_reducible apply ROps.idx); (case hop => rfl); (case hx => rfl); (case hi => rfl); (case he => rfl); (case hw => rfl); (case hdst => rfl); (case hd => rfl); (case h0 => first | assumption | omega); (case h1 => first | assumption | omega))
    | ((with_reducible apply ROps.alloc); (case hop => rfl); (all_goals try rfl))
    | ((with_reducible apply ROps.box); (case hop => rfl); (case hx => rfl); (case hrf => rfl); (all_goals try rfl))
    | ((with_reducible apply ROps.off); (case hw => rfl); (case hdst => rfl); (case hd => rfl))
    | ((with_reducible apply Runs.loopK1 ((fun i0 i1 i2 => fun kk (v0_3 : Int) => boarderlaw13_Great.l0 kk v0_3 i0 i1 i2) _ _ _) [1] [] (fun b v0_3 => [(3, .imm (.int .i64 v0_3))]) (fun v0_3 => []) _ _ [] H); (case h0 => intros; rfl); (any_goals (clear H; intro k0 hk0 ih0 v0_3 H; replace H : boarderlaw13_Great.l0 (k0 + 1) v0_3 _ _ _ = some _ := H; rw [boarderlaw13_Great.l0] at H)))
    | (with_reducible apply ih0 _ _ [] _ _ (by omega) H)
    | ((with_reducible apply Runs.loopK1 ((fun i0 i1 i2 i3 => fun kk (v1_4 : Int) => boarderlaw13_Great.l1 kk i0 v1_4 i1 i2 i3) _ _ _ _) [1, 3] [] (fun b v1_4 => [(4, .imm (.int .i64 v1_4))]) (fun v1_4 => []) _ _ [] H); (case h0 => intros; rfl); (any_goals (clear H; intro k1 hk1 ih1 v1_4 H; replace H : boarderlaw13_Great.l1 (k1 + 1) _ v1_4 _ _ _ = some _ := H; rw [boarderlaw13_Great.l1] at H)))
    | (with_reducible apply ih1 _ _ [] _ _ (by omega) H)
    | ((with_reducible apply Runs.loopK1 ((fun i0 i1 i2 i3 i4 i5 i6 i7 i8 i9 i10 i11 => fun kk (v2_6 : Int) => boarderlaw13_Great.l2 kk i0 i1 v2_6 i2 i3 i4 i5 i6 i7 i8 i9 i10 i11) _ _ _ _ _ _ _ _ _ _ _ _) [1, 3, 4, 5] [] (fun b v2_6 => [(6, .imm (.int .i64 v2_6))]) (fun v2_6 => []) _ _ [] H); (case h0 => intros; rfl); (any_goals (clear H; intro k2 hk2 ih2 v2_6 H; replace H : boarderlaw13_Great.l2 (k2 + 1) _ _ v2_6 _ _ _ _ _ _ _ _ _ _ = some _ := H; rw [boarderlaw13_Great.l2] at H)))
    | (with_reducible apply ih2 _ _ [] _ _ (by omega) H)
    | ((with_reducible apply Runs.retP tysOK); (case hrs => rfl); (case h => rfl); (case hr => (cases H; exact refX)); (case hx => rfl))
    | exact leRX)
end Go.Proofs.Ytdcabfonjmeajaa.PAlloc
set_option linter.unusedVariables false
set_option linter.unusedSimpArgs false
namespace Go.Proofs.Ytdcabfonjmeajaa.PAlloc
open Go.RowKit Go.Proofs.YtdcabfonjmeajaaW.PrintWords Go.Proofs.YtdcabfonjmeajaaW.PrintLast Go.Proofs.YtdcabfonjmeajaaW.PrintMore Go.Proofs.Ytdcabfonjmeajaa.Abs
/-! ### boarderlaw12_Great: function 51 -/
def boarderlaw12_Great.l0 : Nat → List (S47) → Int → Option (Bool)
  | 0, _, _ => none
  | k + 1, x0, x3 => if x3 < (x0.length : Int) then (if 0 ≤ x3 then (if (((rd_T47 x0 x3).f3).size : Int) > 1000 then (some true) else (boarderlaw12_Great.l0 k x0 (wrap64 (x3 + 1)))) else (none)) else (some (decide ((x0.length : Int) > 200)))
def boarderlaw12_Great.f (k : Nat) (l0 : List (S47)) : Option (Bool) := boarderlaw12_Great.l0 k l0 0
noncomputable def boarderlaw12_Great.cx : Cx := ⟨Try.prog, tys, glo, 20, Try.f51, [.tmp 2]⟩
set_option maxHeartbeats 16000000 in
set_option maxRecDepth 100000 in
theorem boarderlaw12_Great.ok {k : Nat} {l0 : List (S47)} {r0 : Bool} (H : boarderlaw12_Great.f k l0 = some r0) : CallOK Try.prog glo 51 [vS47 l0] (.imm (.bool r0)) := by
  unfold boarderlaw12_Great.f at H
  refine CallOK.of (c := boarderlaw12_Great.cx) Try.func51 (show (boarderlaw12_Great.cx).fn.body = some _ from rfl) rfl rfl (Nat.le_of_ble_eq_true rfl) ?_
  repeat' (first
    | ((with_reducible replace H := some_ite H); obtain ⟨_, H⟩ := H)
    | (with_reducible replace H := true_ite H)
    | (with_reducible replace H := false_ite H)
    | ((with_reducible have hb := bool_ite H); clear H; rcases hb with ⟨e_, H⟩ | ⟨e_, H⟩ <;> subst e_)
    | ((with_reducible apply ROps.pure); (case hop => rfl); (case hw => rfl); (case hdst => rfl); (case hd => rfl))
    | (with_reducible apply ROps.nil)
    | (with_reducible apply Runs.seq)
    | (with_reducible apply Runs.region tysOK)
    | (with_reducible apply Runs.block)
    | (with_reducible apply Runs.skip)
    | (with_reducible apply Runs.inBlock)
    | (with_reducible apply Runs.scope)
    | (with_reducible apply Runs.inScope)
    | (with_reducible apply Runs.label)
    | ((with_reducible apply Runs.condT); (case ho => rfl))
    | ((with_reducible apply Runs.condF); (case ho => rfl))
    | ((with_reducible apply Runs.exit); (case he => rfl))
    | ((with_reducible apply ROps.cmp); (case hop => exact cmpX); (case hw => rfl); (case hdst => rfl); (case hd => rfl); (all_goals (intro h; first | (replace H := ite_pos_ h H) | (replace H := ite_neg_ h H) | (replace H := dec_pos h H) | (replace H := dec_neg h H) | (replace H := dec_t h H) | (replace H := dec_f h H) | (replace H := ite_pos_ (Decidable.not_not.1 h) H) | ((try simp only [rd_T47, rdOf] at h); (try simp only [rd_T47, rdOf] at H); (rw [decide_eq_true h] at H)) | ((try simp only [rd_T47, rdOf] at h); (try simp only [rd_T47, rdOf] at H); (rw [decide_eq_false h] at H)) | ((try simp only [rd_T47, rdOf] at h); (try simp only [rd_T47, rdOf] at H); (rw [if_pos h] at H)) | ((try simp only [rd_T47, rdOf] at h); (try simp only [rd_T47, rdOf] at H); (rw [if_neg h] at H)) | contradiction | skip)))
    | ((with_reducible apply ROps.val); (case hop => exact valX); (case hw => rfl); (case hdst => rfl); (case hd => rfl))
    | ((with_reducible apply ROps.idx); (case hop => rfl); (case hx => rfl); (case hi => rfl); (case he => rfl); (case hw => rfl); (case hdst => rfl); (case hd => rfl); (case h0 => first | assumption | omega); (case h1 => first | assumption | omega))
    | ((with_reducible apply Runs.loopK1 ((fun i0 => fun kk (v0_3 : Int) => boarderlaw12_Great.l0 kk i0 v0_3) _) [0] [] (fun b v0_3 => [(3, .imm (.int .i64 v0_3))]) (fun v0_3 => []) _ _ [] H); (case h0 => intros; rfl); (any_goals (clear H; intro k0 hk0 ih0 v0_3 H; replace H : boarderlaw12_Great.l0 (k0 + 1) _ v0_3 = some _ := H; rw [boarderlaw12_Great.l0] at H)))
    | (with_reducible apply ih0 _ _ [] _ _ (by omega) H)
    | ((with_reducible apply Runs.retP tysOK); (case hrs => rfl); (case h => rfl); (case hr => (cases H; exact refX)); (case hx => rfl))
    | exact leRX)
end Go.Proofs.Ytdcabfonjmeajaa.PAlloc
set_option linter.unusedVariables false
set_option linter.unusedSimpArgs false
namespace Go.Proofs.Ytdcabfonjmeajaa.PAlloc
open Go.RowKit Go.Proofs.YtdcabfonjmeajaaW.PrintWords Go.Proofs.YtdcabfonjmeajaaW.PrintLast Go.Proofs.YtdcabfonjmeajaaW.PrintMore Go.Proofs.Ytdcabfonjmeajaa.Abs
/-! ### boarderlaw15_Great: function 28 -/
def boarderlaw15_Great.f (k : Nat) (a0_0 : Int) (a0_1 : Int) (l0_2 : List (S41)) (l1 : List (S47)) (a2 : ByteArray) : Option (Bool) := (boarderlaw13_Great.f k a0_0 a0_1 l0_2).bind fun t110 => (if t110 = true then (some true) else ((boarderlaw12_Great.f k l1).bind fun t111 => (if t111 = true then (some true) else (some (decide ((a2.size : Int) > 1000))))))
noncomputable def boarderlaw15_Great.cx : Cx := ⟨Try.prog, tys, glo, 18, Try.f28, [.tmp 6]⟩
set_option maxHeartbeats 16000000 in
set_option maxRecDepth 100000 in
theorem boarderlaw15_Great.ok {k : Nat} {a0_0 : Int} {a0_1 : Int} {l0_2 : List (S41)} {l1 : List (S47)} {a2 : ByteArray} {r0 : Bool} (H : boarderlaw15_Great.f k a0_0 a0_1 l0_2 l1 a2 = some r0) : CallOK Try.prog glo 28 [.agg [.imm (.int .i64 a0_0), .imm (.int .i64 a0_1), vS41 l0_2], vS47 l1, .imm (.string a2)] (.imm (.bool r0)) := by
  unfold boarderlaw15_Great.f at H
  refine CallOK.of (c := boarderlaw15_Great.cx) Try.func28 (show (boarderlaw15_Great.cx).fn.body = some _ from rfl) rfl rfl (Nat.le_of_ble_eq_true rfl) ?_
  repeat' (first
    | ((with_reducible replace H := some_ite H); obtain ⟨_, H⟩ := H)
    | (with_reducible replace H := some_bind_ H)
    | (with_reducible replace H := true_ite H)
    | (with_reducible replace H := false_ite H)
    | ((with_reducible have hb := bool_ite H); clear H; rcases hb with ⟨e_, H⟩ | ⟨e_, H⟩ <;> subst e_)
    | ((with_reducible apply ROps.pure); (case hop => rfl); (case hw => rfl); (case hdst => rfl); (case hd => rfl))
    | (with_reducible apply ROps.nil)
    | (with_reducible apply Runs.seq)
    | (with_reducible apply Runs.region tysOK)
    | (with_reducible apply Runs.scope)
    | (with_reducible apply Runs.inScope)
    | (with_reducible apply Runs.label)
    | ((with_reducible apply ROps.cmp); (case hop => exact cmpX); (case hw => rfl); (case hdst => rfl); (case hd => rfl); (all_goals (intro h; first | (replace H := ite_pos_ h H) | (replace H := ite_neg_ h H) | (replace H := dec_pos h H) | (replace H := dec_neg h H) | (replace H := dec_t h H) | (replace H := dec_f h H) | (replace H := ite_pos_ (Decidable.not_not.1 h) H) | ((try simp only [rdOf] at h); (try simp only [rdOf] at H); (rw [decide_eq_true h] at H)) | ((try simp only [rdOf] at h); (try simp only [rdOf] at H); (rw [decide_eq_false h] at H)) | ((try simp only [rdOf] at h); (try simp only [rdOf] at H); (rw [if_pos h] at H)) | ((try simp only [rdOf] at h); (try simp only [rdOf] at H); (rw [if_neg h] at H)) | contradiction | skip)))
    | ((with_reducible apply ROps.box); (case hop => rfl); (case hx => rfl); (case hrf => rfl); (all_goals try rfl))
    | ((with_reducible apply ROps.off); (case hw => rfl); (case hdst => rfl); (case hd => rfl))
    | ((with_reducible have hB : (boarderlaw13_Great.f _ _ _ _).bind _ = some _ := H); clear hB; (replace H := bind_some' H); (obtain ⟨t_, H1, H⟩ := H); (try dsimp only at H); (with_reducible apply ROps.call); (case hop => rfl); (case hc => exact boarderlaw13_Great.ok H1); (case ha => exact argsX); (case hw => rfl); (case hdst => rfl); (case hd => rfl))
    | ((with_reducible have hB : (boarderlaw12_Great.f _ _).bind _ = some _ := H); clear hB; (replace H := bind_some' H); (obtain ⟨t_, H1, H⟩ := H); (try dsimp only at H); (with_reducible apply ROps.call); (case hop => rfl); (case hc => exact boarderlaw12_Great.ok H1); (case ha => exact argsX); (case hw => rfl); (case hdst => rfl); (case hd => rfl))
    | ((with_reducible apply Runs.retP tysOK); (case hrs => rfl); (case h => rfl); (case hr => (cases H; exact refX)); (case hx => rfl))
    | exact leRX)
end Go.Proofs.Ytdcabfonjmeajaa.PAlloc
set_option linter.unusedVariables false
set_option linter.unusedSimpArgs false
namespace Go.Proofs.Ytdcabfonjmeajaa.PAlloc
open Go.RowKit Go.Proofs.YtdcabfonjmeajaaW.PrintWords Go.Proofs.YtdcabfonjmeajaaW.PrintLast Go.Proofs.YtdcabfonjmeajaaW.PrintMore Go.Proofs.Ytdcabfonjmeajaa.Abs
/-! ### addr_Right: function 64 -/
def addr_Right.f (a0 : Int) : Option (Bool) := if a0 ≥ 0 then (some (decide (a0 ≤ 4294967295))) else (some false)
noncomputable def addr_Right.cx : Cx := ⟨Try.prog, tys, glo, 9, Try.f64, [.tmp 2]⟩
set_option maxHeartbeats 16000000 in
set_option maxRecDepth 100000 in
theorem addr_Right.ok {a0 : Int} {r0 : Bool} (H : addr_Right.f a0 = some r0) : CallOK Try.prog glo 64 [.imm (.int .i64 a0)] (.imm (.bool r0)) := by
  unfold addr_Right.f at H
  refine CallOK.of (c := addr_Right.cx) Try.func64 (show (addr_Right.cx).fn.body = some _ from rfl) rfl rfl (Nat.le_of_ble_eq_true rfl) ?_
  repeat' (first
    | ((with_reducible replace H := some_ite H); obtain ⟨_, H⟩ := H)
    | (with_reducible replace H := true_ite H)
    | (with_reducible replace H := false_ite H)
    | ((with_reducible have hb := bool_ite H); clear H; rcases hb with ⟨e_, H⟩ | ⟨e_, H⟩ <;> subst e_)
    | ((with_reducible apply ROps.pure); (case hop => rfl); (case hw => rfl); (case hdst => rfl); (case hd => rfl))
    | (with_reducible apply ROps.nil)
    | (with_reducible apply Runs.seq)
    | (with_reducible apply Runs.region tysOK)
    | (with_reducible apply Runs.scope)
    | (with_reducible apply Runs.inScope)
    | (with_reducible apply Runs.label)
    | ((with_reducible apply ROps.cmp); (case hop => exact cmpX); (case hw => rfl); (case hdst => rfl); (case hd => rfl); (all_goals (intro h; first | (replace H := ite_pos_ h H) | (replace H := ite_neg_ h H) | (replace H := dec_pos h H) | (replace H := dec_neg h H) | (replace H := dec_t h H) | (replace H := dec_f h H) | (replace H := ite_pos_ (Decidable.not_not.1 h) H) | ((try simp only [rdOf] at h); (try simp only [rdOf] at H); (rw [decide_eq_true h] at H)) | ((try simp only [rdOf] at h); (try simp only [rdOf] at H); (rw [decide_eq_false h] at H)) | ((try simp only [rdOf] at h); (try simp only [rdOf] at H); (rw [if_pos h] at H)) | ((try simp only [rdOf] at h); (try simp only [rdOf] at H); (rw [if_neg h] at H)) | contradiction | skip)))
    | ((with_reducible apply ROps.off); (case hw => rfl); (case hdst => rfl); (case hd => rfl))
    | ((with_reducible apply Runs.retP tysOK); (case hrs => rfl); (case h => rfl); (case hr => (cases H; exact refX)); (case hx => rfl))
    | exact leRX)
end Go.Proofs.Ytdcabfonjmeajaa.PAlloc
set_option linter.unusedVariables false
set_option linter.unusedSimpArgs false
namespace Go.Proofs.Ytdcabfonjmeajaa.PAlloc
open Go.RowKit Go.Proofs.YtdcabfonjmeajaaW.PrintWords Go.Proofs.YtdcabfonjmeajaaW.PrintLast Go.Proofs.YtdcabfonjmeajaaW.PrintMore Go.Proofs.Ytdcabfonjmeajaa.Abs
/-! ### conf_within: function 65 -/
def conf_within.f (a0 : Int) (a1 : Int) (a2 : Int) : Option (Bool) := if a0 ≥ a1 then (some (decide (a0 ≤ a2))) else (some false)
noncomputable def conf_within.cx : Cx := ⟨Try.prog, tys, glo, 15, Try.f65, [.tmp 6]⟩
set_option maxHeartbeats 16000000 in
set_option maxRecDepth 100000 in
theorem conf_within.ok {a0 : Int} {a1 : Int} {a2 : Int} {r0 : Bool} (H : conf_within.f a0 a1 a2 = some r0) : CallOK Try.prog glo 65 [.imm (.int .i64 a0), .imm (.int .i64 a1), .imm (.int .i64 a2)] (.imm (.bool r0)) := by
  unfold conf_within.f at H
  refine CallOK.of (c := conf_within.cx) Try.func65 (show (conf_within.cx).fn.body = some _ from rfl) rfl rfl (Nat.le_of_ble_eq_true rfl) ?_
  repeat' (first
    | ((with_reducible replace H := some_ite H); obtain ⟨_, H⟩ := H)
    | (with_reducible replace H := true_ite H)
    | (with_reducible replace H := false_ite H)
    | ((with_reducible have hb := bool_ite H); clear H; rcases hb with ⟨e_, H⟩ | ⟨e_, H⟩ <;> subst e_)
    | ((with_reducible apply ROps.pure); (case hop => rfl); (case hw => rfl); (case hdst => rfl); (case hd => rfl))
    | (with_reducible apply ROps.nil)
    | (with_reducible apply Runs.seq)
    | (with_reducible apply Runs.region tysOK)
    | (with_reducible apply Runs.scope)
    | (with_reducible apply Runs.inScope)
    | (with_reducible apply Runs.label)
    | ((with_reducible apply ROps.cmp); (case hop => exact cmpX); (case hw => rfl); (case hdst => rfl); (case hd => rfl); (all_goals (intro h; first | (replace H := ite_pos_ h H) | (replace H := ite_neg_ h H) | (replace H := dec_pos h H) | (replace H := dec_neg h H) | (replace H := dec_t h H) | (replace H := dec_f h H) | (replace H := ite_pos_ (Decidable.not_not.1 h) H) | ((try simp only [rdOf] at h); (try simp only [rdOf] at H); (rw [decide_eq_true h] at H)) | ((try simp only [rdOf] at h); (try simp only [rdOf] at H); (rw [decide_eq_false h] at H)) | ((try simp only [rdOf] at h); (try simp only [rdOf] at H); (rw [if_pos h] at H)) | ((try simp only [rdOf] at h); (try simp only [rdOf] at H); (rw [if_neg h] at H)) | contradiction | skip)))
    | ((with_reducible apply ROps.off); (case hw => rfl); (case hdst => rfl); (case hd => rfl))
    | ((with_reducible apply Runs.retP tysOK); (case hrs => rfl); (case h => rfl); (case hr => (cases H; exact refX)); (case hx => rfl))
    | exact leRX)
end Go.Proofs.Ytdcabfonjmeajaa.PAlloc
set_option linter.unusedVariables false
set_option linter.unusedSimpArgs false
namespace Go.Proofs.Ytdcabfonjmeajaa.PAlloc
open Go.RowKit Go.Proofs.YtdcabfonjmeajaaW.PrintWords Go.Proofs.YtdcabfonjmeajaaW.PrintLast Go.Proofs.YtdcabfonjmeajaaW.PrintMore Go.Proofs.Ytdcabfonjmeajaa.Abs
/-! ### conf_spots: function 66 -/
mutual
def conf_spots.l0 : Nat → List (S66) → List (S41) → Int → Int → Option ((List (S66)))
  | 0, _, _, _, _ => none
  | k + 1, x3, x9, x10, x11 => if x11 < x10 then (if 0 ≤ x11 then (if x11 < (x9.length : Int) then (conf_spots.l1 k x3 x11 x9 x10 x11 ((rd_T41 x9 x11).f0) (((rd_T41 x9 x11).f0).length : Int) 0) else (none)) else (none)) else (some x3)
def conf_spots.l1 : Nat → List (S66) → Int → List (S41) → Int → Int → List (S57) → Int → Int → Option ((List (S66)))
  | 0, _, _, _, _, _, _, _, _ => none
  | k + 1, x3, x4, x9, x10, x11, x17, x18, x19 => if x19 < x18 then (if 0 ≤ x19 then (if x19 < (x17.length : Int) then (if x3.length < 1353245080339 then (conf_spots.l1 k (x3 ++ [(⟨x4, x19, (⟨(rd_T57 x17 x19).f0, (rd_T57 x17 x19).f1, (rd_T57 x17 x19).f2, (rd_T57 x17 x19).f3, (rd_T57 x17 x19).f4, (rd_T57 x17 x19).f5, (rd_T57 x17 x19).f6⟩ : S57)⟩ : S66)]) x4 x9 x10 x11 x17 x18 (wrap64 (x19 + 1))) else (none)) else (none)) else (none)) else (conf_spots.l0 k x3 x9 x10 (wrap64 (x11 + 1)))
end
def conf_spots.f (k : Nat) (a0_0 : Int) (a0_1 : Int) (l0_2 : List (S41)) : Option ((List (S66))) := conf_spots.l0 k ([] : List (S66)) l0_2 (l0_2.length : Int) 0
noncomputable def conf_spots.cx : Cx := ⟨Try.prog, tys, glo, 34, Try.f66, [.tmp 2]⟩
set_option maxHeartbeats 16000000 in
set_option maxRecDepth 100000 in
theorem conf_spots.ok {k : Nat} {a0_0 : Int} {a0_1 : Int} {l0_2 : List (S41)} {r0 : List (S66)} (H : conf_spots.f k a0_0 a0_1 l0_2 = some r0) : CallOK Try.prog glo 66 [.agg [.imm (.int .i64 a0_0), .imm (.int .i64 a0_1), vS41 l0_2]] (vS66 r0) := by
  unfold conf_spots.f at H
  refine CallOK.of (c := conf_spots.cx) Try.func66 (show (conf_spots.cx).fn.body = some _ from rfl) rfl rfl (Nat.le_of_ble_eq_true rfl) ?_
  repeat' (first
    | ((with_reducible replace H := some_ite H); obtain ⟨_, H⟩ := H)
    | (with_reducible replace H := true_ite H)
    | (with_reducible replace H := false_ite H)
    | ((with_reducible have hb := bool_ite H); clear H; rcases hb with ⟨e_, H⟩ | ⟨e_, H⟩ <;> subst e_)
    | ((with_reducible apply ROps.pure); (case hop => rfl); (case hw => rfl); (case hdst => rfl); (case hd => rfl))
    | (with_reducible apply ROps.nil)
    | (with_reducible apply Runs.seq)
    | (with_reducible apply Runs.region tysOK)
    | (with_reducible apply Runs.block)
    | (with_reducible apply Runs.skip)
    | (with_reducible apply Runs.inBlock)
    | (with_reducible apply Runs.scope)
    | (with_reducible apply Runs.inScope)
    | (with_reducible apply Runs.label)
    | ((with_reducible apply Runs.condT); (case ho => rfl))
    | ((with_reducible apply Runs.condF); (case ho => rfl))
    | ((with_reducible apply Runs.exit); (case he => rfl))
    | ((with_reducible apply ROps.store); (case hop => rfl); (all_goals try rfl))
    | ((with_reducible apply ROps.cmp); (case hop => exact cmpX); (case hw => rfl); (case hdst => rfl); (case hd => rfl); (all_goals (intro h; first | (replace H := ite_pos_ h H) | (replace H := ite_neg_ h H) | (replace H := dec_pos h H) | (replace H := dec_neg h H) | (replace H := dec_t h H) | (replace H := dec_f h H) | (replace H := ite_pos_ (Decidable.not_not.1 h) H) | ((try simp only [rd_T41, rd_T57, rdOf] at h); (try simp only [rd_T41, rd_T57, rdOf] at H); (rw [decide_eq_true h] at H)) | ((try simp only [rd_T41, rd_T57, rdOf] at h); (try simp only [rd_T41, rd_T57, rdOf] at H); (rw [decide_eq_false h] at H)) | ((try simp only [rd_T41, rd_T57, rdOf] at h); (try simp only [rd_T41, rd_T57, rdOf] at H); (rw [if_pos h] at H)) | ((try simp only [rd_T41, rd_T57, rdOf] at h); (try simp only [rd_T41, rd_T57, rdOf] at H); (rw [if_neg h] at H)) | contradiction | skip)))
    | ((with_reducible apply ROps.val); (case hop => exact valX); (case hw => rfl); (case hdst => rfl); (case hd => rfl))
    | ((with_reducible apply ROps.idx); (case hop => rfl); (case hx => rfl); (case hi => rfl); (case he => rfl); (case hw => rfl); (case hdst => rfl); (case hd => rfl); (case h0 => first | assumption | omega); (case h1 => first | assumption | omega))
    | ((with_reducible apply ROps.alloc); (case hop => rfl); (all_goals try rfl))
    | ((with_reducible apply ROps.box); (case hop => rfl); (case hx => rfl); (case hrf => rfl); (all_goals try rfl))
    | ((with_reducible apply ROps.lit); (case hop => rfl); (case hti => rfl); (case hsz => rfl); (case hl => rfl); (case hrf => rfl); (all_goals try rfl))
    | ((with_reducible apply ROps.app); (case hop => rfl); (case hti => rfl); (case hsz => rfl); (case hs => rfl); (case hR => rfl); (case hx => rfl); (case hb => constructor <;> ((try simp only [maxLen, List.length_nil, List.length_cons, List.length_append] at *); omega)); (all_goals try rfl))
    | ((with_reducible apply ROps.appN); (case hop => rfl); (case hti => rfl); (case hsz => rfl); (case hs => rfl); (case hx => rfl); (case hb => constructor <;> ((try simp only [maxLen, List.length_nil, List.length_cons, List.length_append] at *); omega)); (all_goals try rfl))
    | ((with_reducible apply Runs.loopK2 ((fun i0 i1 => fun kk (v0_3 : List (S66)) (v0_11 : Int) => conf_spots.l0 kk v0_3 i0 i1 v0_11) _ _) [9, 10] [] (fun b v0_3 v0_11 => [(3, .own (b + 0) (v0_3).length 9 (rowsE eS66 z66 v0_3)), (11, .imm (.int .i64 v0_11))]) (fun v0_3 v0_11 => [.arr 66 9 (v0_3).length]) _ _ _ [_] H); (case h0 => intros; rfl); (any_goals (clear H; intro k0 hk0 ih0 v0_3 v0_11 H; replace H : conf_spots.l0 (k0 + 1) v0_3 _ _ v0_11 = some _ := H; rw [conf_spots.l0] at H)))
    | (with_reducible apply ih0 _ _ _ [_] _ _ (by omega) H)
    | ((with_reducible apply Runs.loopK2 ((fun i0 i1 i2 i3 i4 i5 => fun kk (v1_3 : List (S66)) (v1_19 : Int) => conf_spots.l1 kk v1_3 i0 i1 i2 i3 i4 i5 v1_19) _ _ _ _ _ _) [4, 9, 10, 11, 17, 18] [] (fun b v1_3 v1_19 => [(3, .own (b + 0) (v1_3).length 9 (rowsE eS66 z66 v1_3)), (19, .imm (.int .i64 v1_19))]) (fun v1_3 v1_19 => [.arr 66 9 (v1_3).length]) _ _ _ [_] H); (case h0 => intros; rfl); (any_goals (clear H; intro k1 hk1 ih1 v1_3 v1_19 H; replace H : conf_spots.l1 (k1 + 1) v1_3 _ _ _ _ _ _ v1_19 = some _ := H; rw [conf_spots.l1] at H)))
    | (with_reducible apply ih1 _ _ _ [_] _ _ (by omega) H)
    | ((with_reducible apply Runs.retP tysOK); (case hrs => rfl); (case h => rfl); (case hr => (cases H; exact refX)); (case hx => rfl))
    | exact leRX)
end Go.Proofs.Ytdcabfonjmeajaa.PAlloc
set_option linter.unusedVariables false
set_option linter.unusedSimpArgs false
namespace Go.Proofs.Ytdcabfonjmeajaa.PAlloc
open Go.RowKit Go.Proofs.YtdcabfonjmeajaaW.PrintWords Go.Proofs.YtdcabfonjmeajaaW.PrintLast Go.Proofs.YtdcabfonjmeajaaW.PrintMore Go.Proofs.Ytdcabfonjmeajaa.Abs
/-! ### addr_mask: function 76 -/
def addr_mask.f (a0 : Int) : Option (Int) := if 0 ≤ (wrap64 (32 - a0)) then (some (Go.bits .andNot .i64 4294967295 (wrap64 ((shl .i64 1 (wrap64 (32 - a0))) - 1)))) else (none)
noncomputable def addr_mask.cx : Cx := ⟨Try.prog, tys, glo, 8, Try.f76, [.tmp 2]⟩
set_option maxHeartbeats 16000000 in
set_option maxRecDepth 100000 in
theorem addr_mask.ok {a0 : Int} {r0 : Int} (H : addr_mask.f a0 = some r0) : CallOK Try.prog glo 76 [.imm (.int .i64 a0)] (.imm (.int .i64 r0)) := by
  unfold addr_mask.f at H
  refine CallOK.of (c := addr_mask.cx) Try.func76 (show (addr_mask.cx).fn.body = some _ from rfl) rfl rfl (Nat.le_of_ble_eq_true rfl) ?_
  repeat' (first
    | ((with_reducible replace H := some_ite H); obtain ⟨_, H⟩ := H)
    | (with_reducible replace H := true_ite H)
    | (with_reducible replace H := false_ite H)
    | ((with_reducible have hb := bool_ite H); clear H; rcases hb with ⟨e_, H⟩ | ⟨e_, H⟩ <;> subst e_)
    | ((with_reducible apply ROps.pure); (case hop => rfl); (case hw => rfl); (case hdst => rfl); (case hd => rfl))
    | (with_reducible apply ROps.nil)
    | (with_reducible apply Runs.seq)
    | (with_reducible apply Runs.region tysOK)
    | (with_reducible apply Runs.scope)
    | (with_reducible apply Runs.inScope)
    | (with_reducible apply Runs.label)
    | ((with_reducible apply ROps.val); (case hop => exact valX); (case hw => rfl); (case hdst => rfl); (case hd => rfl))
    | ((with_reducible apply Runs.retP tysOK); (case hrs => rfl); (case h => rfl); (case hr => (cases H; exact refX)); (case hx => rfl))
    | exact leRX)
end Go.Proofs.Ytdcabfonjmeajaa.PAlloc
set_option linter.unusedVariables false
set_option linter.unusedSimpArgs false
namespace Go.Proofs.Ytdcabfonjmeajaa.PAlloc
open Go.RowKit Go.Proofs.YtdcabfonjmeajaaW.PrintWords Go.Proofs.YtdcabfonjmeajaaW.PrintLast Go.Proofs.YtdcabfonjmeajaaW.PrintMore Go.Proofs.Ytdcabfonjmeajaa.Abs
/-! ### addr_Fair: function 75 -/
def addr_Fair.f (a0 : Int) (a1 : Int) : Option (Bool) := if a1 ≥ 0 then (if a1 ≤ 32 then ((addr_Right.f a0).bind fun t120 => (if t120 = true then ((addr_mask.f a1).bind fun t121 => (some ((Go.bits .andNot .i64 a0 t121) == 0))) else (some false))) else (some false)) else (some false)
noncomputable def addr_Fair.cx : Cx := ⟨Try.prog, tys, glo, 22, Try.f75, [.tmp 4]⟩
set_option maxHeartbeats 16000000 in
set_option maxRecDepth 100000 in
theorem addr_Fair.ok {a0 : Int} {a1 : Int} {r0 : Bool} (H : addr_Fair.f a0 a1 = some r0) : CallOK Try.prog glo 75 [.imm (.int .i64 a0), .imm (.int .i64 a1)] (.imm (.bool r0)) := by
  unfold addr_Fair.f at H
  refine CallOK.of (c := addr_Fair.cx) Try.func75 (show (addr_Fair.cx).fn.body = some _ from rfl) rfl rfl (Nat.le_of_ble_eq_true rfl) ?_
  repeat' (first
    | ((with_reducible replace H := some_ite H); obtain ⟨_, H⟩ := H)
    | (with_reducible replace H := true_ite H)
    | (with_reducible replace H := false_ite H)
    | ((with_reducible have hb := bool_ite H); clear H; rcases hb with ⟨e_, H⟩ | ⟨e_, H⟩ <;> subst e_)
    | ((with_reducible apply ROps.pure); (case hop => rfl); (case hw => rfl); (case hdst => rfl); (case hd => rfl))
    | (with_reducible apply ROps.nil)
    | (with_reducible apply Runs.seq)
    | (with_reducible apply Runs.region tysOK)
    | (with_reducible apply Runs.scope)
    | (with_reducible apply Runs.inScope)
    | (with_reducible apply Runs.label)
    | ((with_reducible apply ROps.cmp); (case hop => exact cmpX); (case hw => rfl); (case hdst => rfl); (case hd => rfl); (all_goals (intro h; first | (replace H := ite_pos_ h H) | (replace H := ite_neg_ h H) | (replace H := dec_pos h H) | (replace H := dec_neg h H) | (replace H := dec_t h H) | (replace H := dec_f h H) | (replace H := beq_pos h H) | (replace H := beq_neg h H) | (replace H := beq_tt h H) | (replace H := beq_ff h H) | (replace H := ite_pos_ (Decidable.not_not.1 h) H) | (replace H := beq_pos (Decidable.not_not.1 h) H) | (replace H := beq_tt (Decidable.not_not.1 h) H) | ((try simp only [rdOf] at h); (try simp only [rdOf] at H); (rw [decide_eq_true h] at H)) | ((try simp only [rdOf] at h); (try simp only [rdOf] at H); (rw [decide_eq_false h] at H)) | ((try simp only [rdOf] at h); (try simp only [rdOf] at H); (rw [beq_t h] at H)) | ((try simp only [rdOf] at h); (try simp only [rdOf] at H); (rw [beq_f h] at H)) | ((try simp only [rdOf] at h); (try simp only [rdOf] at H); (rw [beq_t (Decidable.not_not.1 h)] at H)) | ((try simp only [rdOf] at h); (try simp only [rdOf] at H); (rw [if_pos h] at H)) | ((try simp only [rdOf] at h); (try simp only [rdOf] at H); (rw [if_neg h] at H)) | contradiction | skip)))
    | ((with_reducible apply ROps.val); (case hop => exact valX); (case hw => rfl); (case hdst => rfl); (case hd => rfl))
    | ((with_reducible apply ROps.off); (case hw => rfl); (case hdst => rfl); (case hd => rfl))
    | ((with_reducible have hB : (addr_Right.f _).bind _ = some _ := H); clear hB; (replace H := bind_some' H); (obtain ⟨t_, H1, H⟩ := H); (try dsimp only at H); (with_reducible apply ROps.call); (case hop => rfl); (case hc => exact addr_Right.ok H1); (case ha => exact argsX); (case hw => rfl); (case hdst => rfl); (case hd => rfl))
    | ((with_reducible have hB : (addr_mask.f _).bind _ = some _ := H); clear hB; (replace H := bind_some' H); (obtain ⟨t_, H1, H⟩ := H); (try dsimp only at H); (with_reducible apply ROps.call); (case hop => rfl); (case hc => exact addr_mask.ok H1); (case ha => exact argsX); (case hw => rfl); (case hdst => rfl); (case hd => rfl))
    | ((with_reducible apply Runs.retP tysOK); (case hrs => rfl); (case h => rfl); (case hr => (cases H; exact refX)); (case hx => rfl))
    | exact leRX)
end Go.Proofs.Ytdcabfonjmeajaa.PAlloc
set_option linter.unusedVariables false
set_option linter.unusedSimpArgs false
namespace Go.Proofs.Ytdcabfonjmeajaa.PAlloc
open Go.RowKit Go.Proofs.YtdcabfonjmeajaaW.PrintWords Go.Proofs.YtdcabfonjmeajaaW.PrintLast Go.Proofs.YtdcabfonjmeajaaW.PrintMore Go.Proofs.Ytdcabfonjmeajaa.Abs
/-! ### key_Right: function 80 -/
def key_Right.f (a0 : ByteArray) : Option (Bool) := if (a0.size : Int) = 0 then (some false) else (if 0 < (a0.size : Int) then (if (bt a0 0) = 105 then (if (wrap64 ((a0.size : Int) - 1)) ≥ 2 then (some (decide ((wrap64 ((a0.size : Int) - 1)) ≤ 255))) else (some false)) else (if (bt a0 0) = 104 then (if (wrap64 ((a0.size : Int) - 1)) ≥ 2 then (some (decide ((wrap64 ((a0.size : Int) - 1)) ≤ 17))) else (some false)) else (some false))) else (none))
noncomputable def key_Right.cx : Cx := ⟨Try.prog, tys, glo, 28, Try.f80, [.tmp 2]⟩
set_option maxHeartbeats 16000000 in
set_option maxRecDepth 100000 in
theorem key_Right.ok {a0 : ByteArray} {r0 : Bool} (H : key_Right.f a0 = some r0) : CallOK Try.prog glo 80 [.imm (.string a0)] (.imm (.bool r0)) := by
  unfold key_Right.f at H
  refine CallOK.of (c := key_Right.cx) Try.func80 (show (key_Right.cx).fn.body = some _ from rfl) rfl rfl (Nat.le_of_ble_eq_true rfl) ?_
  repeat' (first
    | ((with_reducible replace H := some_ite H); obtain ⟨_, H⟩ := H)
    | (with_reducible replace H := true_ite H)
    | (with_reducible replace H := false_ite H)
    | ((with_reducible have hb := bool_ite H); clear H; rcases hb with ⟨e_, H⟩ | ⟨e_, H⟩ <;> subst e_)
    | ((with_reducible apply ROps.pure); (case hop => rfl); (case hw => rfl); (case hdst => rfl); (case hd => rfl))
    | (with_reducible apply ROps.nil)
    | (with_reducible apply Runs.seq)
    | (with_reducible apply Runs.region tysOK)
    | (with_reducible apply Runs.block)
    | (with_reducible apply Runs.skip)
    | (with_reducible apply Runs.inBlock)
    | (with_reducible apply Runs.scope)
    | (with_reducible apply Runs.inScope)
    | (with_reducible apply Runs.label)
    | ((with_reducible apply Runs.condT); (case ho => rfl))
    | ((with_reducible apply Runs.condF); (case ho => rfl))
    | ((with_reducible apply ROps.cmp); (case hop => exact cmpX); (case hw => rfl); (case hdst => rfl); (case hd => rfl); (all_goals (intro h; first | (replace H := ite_pos_ h H) | (replace H := ite_neg_ h H) | (replace H := dec_pos h H) | (replace H := dec_neg h H) | (replace H := dec_t h H) | (replace H := dec_f h H) | (replace H := beq_pos h H) | (replace H := beq_neg h H) | (replace H := beq_tt h H) | (replace H := beq_ff h H) | (replace H := ite_pos_ (Decidable.not_not.1 h) H) | (replace H := beq_pos (Decidable.not_not.1 h) H) | (replace H := beq_tt (Decidable.not_not.1 h) H) | ((try simp only [rdOf] at h); (try simp only [rdOf] at H); (rw [decide_eq_true h] at H)) | ((try simp only [rdOf] at h); (try simp only [rdOf] at H); (rw [decide_eq_false h] at H)) | ((try simp only [rdOf] at h); (try simp only [rdOf] at H); (rw [beq_t h] at H)) | ((try simp only [rdOf] at h); (try simp only [rdOf] at H); (rw [beq_f h] at H)) | ((try simp only [rdOf] at h); (try simp only [rdOf] at H); (rw [bne_t h] at H)) | ((try simp only [rdOf] at h); (try simp only [rdOf] at H); (rw [bne_f h] at H)) | ((try simp only [rdOf] at h); (try simp only [rdOf] at H); (rw [beq_t (Decidable.not_not.1 h)] at H)) | ((try simp only [rdOf] at h); (try simp only [rdOf] at H); (rw [bne_f (Decidable.not_not.1 h)] at H)) | ((try simp only [rdOf] at h); (try simp only [rdOf] at H); (rw [if_pos h] at H)) | ((try simp only [rdOf] at h); (try simp only [rdOf] at H); (rw [if_neg h] at H)) | contradiction | skip)))
    | ((with_reducible apply ROps.val); (case hop => exact valX); (case hw => rfl); (case hdst => rfl); (case hd => rfl))
    | ((with_reducible apply ROps.off); (case hw => rfl); (case hdst => rfl); (case hd => rfl))
    | ((with_reducible apply Runs.retP tysOK); (case hrs => rfl); (case h => rfl); (case hr => (cases H; exact refX)); (case hx => rfl))
    | exact leRX)
end Go.Proofs.Ytdcabfonjmeajaa.PAlloc
set_option linter.unusedVariables false
set_option linter.unusedSimpArgs false
namespace Go.Proofs.Ytdcabfonjmeajaa.PAlloc
open Go.RowKit Go.Proofs.YtdcabfonjmeajaaW.PrintWords Go.Proofs.YtdcabfonjmeajaaW.PrintLast Go.Proofs.YtdcabfonjmeajaaW.PrintMore Go.Proofs.Ytdcabfonjmeajaa.Abs
/-! ### conf_fair: function 67 -/
mutual
def conf_fair.j0 : Nat → Bool → Int → Int → List (S62) → List (S59) → Int → Int → Int → Option (Bool)
  | 0, _, _, _, _, _, _, _, _ => none
  | k + 1, x42, x123000, x123001, x123002, x123003, x123004, x123005, x123006 => if x42 = true then (some false) else (conf_fair.l0 k x123002 (x123002.length : Int) 0 x123000 x123001 x123002 x123003 x123004 x123005 x123006)
def conf_fair.l0 : Nat → List (S62) → Int → Int → Int → Int → List (S62) → List (S59) → Int → Int → Int → Option (Bool)
  | 0, _, _, _, _, _, _, _, _, _, _ => none
  | k + 1, x44, x45, x46, x123000, x123001, x123002, x123003, x123004, x123005, x123006 => if x46 < x45 then (if 0 ≤ x46 then (if x46 < (x44.length : Int) then (if ((rd_T62 x44 x46).f0) > ((rd_T62 x44 x46).f1) then (some false) else (conf_fair.l0 k x44 x45 (wrap64 (x46 + 1)) x123000 x123001 x123002 x123003 x123004 x123005 x123006)) else (none)) else (none)) else (conf_fair.l1 k x123003 (x123003.length : Int) 0)
def conf_fair.l1 : Nat → List (S59) → Int → Int → Option (Bool)
  | 0, _, _, _ => none
  | k + 1, x57, x58, x59 => if x59 < x58 then (if 0 ≤ x59 then (if x59 < (x57.length : Int) then ((key_Right.f ((rd_T59 x57 x59).f0)).bind fun t131 => (if t131 = true then (conf_fair.l1 k x57 x58 (wrap64 (x59 + 1))) else (some false))) else (none)) else (none)) else (some true)
end
def conf_fair.f (k : Nat) (a0_0 : Int) (a0_1 : Int) (l0_2 : List (S62)) (l0_3 : List (S59)) (a0_4 : Int) (a0_5 : Int) (a0_6 : Int) : Option (Bool) := (addr_Fair.f a0_0 a0_1).bind fun t123 => (if t123 = true then ((conf_within.f a0_1 8 30).bind fun t124 => (if t124 = true then (if (l0_2.length : Int) > 4 then (conf_fair.j0 k true a0_0 a0_1 l0_2 l0_3 a0_4 a0_5 a0_6) else (if (l0_3.length : Int) > 8 then (conf_fair.j0 k true a0_0 a0_1 l0_2 l0_3 a0_4 a0_5 a0_6) else ((conf_within.f a0_4 0 99).bind fun t125 => (if t125 = true then ((conf_within.f a0_6 1 2147483648).bind fun t126 => (conf_fair.j0 k (!t126) a0_0 a0_1 l0_2 l0_3 a0_4 a0_5 a0_6)) else (conf_fair.j0 k true a0_0 a0_1 l0_2 l0_3 a0_4 a0_5 a0_6))))) else (conf_fair.j0 k true a0_0 a0_1 l0_2 l0_3 a0_4 a0_5 a0_6))) else (conf_fair.j0 k true a0_0 a0_1 l0_2 l0_3 a0_4 a0_5 a0_6))
noncomputable def conf_fair.cx : Cx := ⟨Try.prog, tys, glo, 68, Try.f67, [.tmp 2]⟩
set_option maxHeartbeats 16000000 in
set_option maxRecDepth 100000 in
theorem conf_fair.ok {k : Nat} {a0_0 : Int} {a0_1 : Int} {l0_2 : List (S62)} {l0_3 : List (S59)} {a0_4 : Int} {a0_5 : Int} {a0_6 : Int} {r0 : Bool} (H : conf_fair.f k a0_0 a0_1 l0_2 l0_3 a0_4 a0_5 a0_6 = some r0) : CallOK Try.prog glo 67 [.agg [.imm (.int .i64 a0_0), .imm (.int .i64 a0_1), vS62 l0_2, vS59 l0_3, .imm (.int .i64 a0_4), .imm (.int .i64 a0_5), .imm (.int .i64 a0_6)]] (.imm (.bool r0)) := by
  unfold conf_fair.f at H
  refine CallOK.of (c := conf_fair.cx) Try.func67 (show (conf_fair.cx).fn.body = some _ from rfl) rfl rfl (Nat.le_of_ble_eq_true rfl) ?_
  repeat' (first
    | ((with_reducible have hJ : conf_fair.j0 k _ _ _ _ _ _ _ _ = some _ := H); clear hJ; (rcases k with _ | k); (rw [conf_fair.j0] at H; cases H); (rw [conf_fair.j0] at H))
    | ((with_reducible have hJ : conf_fair.j0 k0 _ _ _ _ _ _ _ _ = some _ := H); clear hJ; (rcases k0 with _ | k0); (rw [conf_fair.j0] at H; cases H); (rw [conf_fair.j0] at H))
    | ((with_reducible have hJ : conf_fair.j0 k1 _ _ _ _ _ _ _ _ = some _ := H); clear hJ; (rcases k1 with _ | k1); (rw [conf_fair.j0] at H; cases H); (rw [conf_fair.j0] at H))
    | ((with_reducible replace H := some_ite H); obtain ⟨_, H⟩ := H)
    | (with_reducible replace H := true_ite H)
    | (with_reducible replace H := false_ite H)
    | ((with_reducible have hb := bool_ite H); clear H; rcases hb with ⟨e_, H⟩ | ⟨e_, H⟩ <;> subst e_)
    | ((with_reducible have hb := bool_iteN H); clear H; rcases hb with ⟨e_, H⟩ | ⟨e_, H⟩ <;> subst e_)
    | ((with_reducible apply ROps.pure); (case hop => rfl); (case hw => rfl); (case hdst => rfl); (case hd => rfl))
    | (with_reducible apply ROps.nil)
    | (with_reducible apply Runs.seq)
    | (with_reducible apply Runs.region tysOK)
    | (with_reducible apply Runs.block)
    | (with_reducible apply Runs.skip)
    | (with_reducible apply Runs.inBlock)
    | (with_reducible apply Runs.scope)
    | (with_reducible apply Runs.inScope)
    | (with_reducible apply Runs.label)
    | ((with_reducible apply Runs.condT); (case ho => rfl))
    | ((with_reducible apply Runs.condF); (case ho => rfl))
    | ((with_reducible apply Runs.exit); (case he => rfl))
    | ((with_reducible apply ROps.store); (case hop => rfl); (all_goals try rfl))
    | ((with_reducible apply ROps.cmp); (case hop => exact cmpX); (case hw => rfl); (case hdst => rfl); (case hd => rfl); (all_goals (intro h; first | (replace H := ite_pos_ h H) | (replace H := ite_neg_ h H) | (replace H := dec_pos h H) | (replace H := dec_neg h H) | (replace H := dec_t h H) | (replace H := dec_f h H) | (replace H := ite_pos_ (Decidable.not_not.1 h) H) | ((try simp only [rd_T59, rd_T62, rdOf] at h); (try simp only [rd_T59, rd_T62, rdOf] at H); (rw [decide_eq_true h] at H)) | ((try simp only [rd_T59, rd_T62, rdOf] at h); (try simp only [rd_T59, rd_T62, rdOf] at H); (rw [decide_eq_false h] at H)) | ((try simp only [rd_T59, rd_T62, rdOf] at h); (try simp only [rd_T59, rd_T62, rdOf] at H); (rw [if_pos h] at H)) | ((try simp only [rd_T59, rd_T62, rdOf] at h); (try simp only [rd_T59, rd_T62, rdOf] at H); (rw [if_neg h] at H)) | contradiction | skip)))
    | ((with_reducible apply ROps.val); (case hop => exact valX); (case hw => rfl); (case hdst => rfl); (case hd => rfl))
    | ((with_reducible apply ROps.idx); (case hop => rfl); (case hx => rfl); (case hi => rfl); (case he => rfl); (case hw => rfl); (case hdst => rfl); (case hd => rfl); (case h0 => first | assumption | omega); (case h1 => first | assumption | omega))
    | ((with_reducible apply ROps.alloc); (case hop => rfl); (all_goals try rfl))
    | ((with_reducible apply ROps.box); (case hop => rfl); (case hx => rfl); (case hrf => rfl); (all_goals try rfl))
    | ((with_reducible apply ROps.off); (case hw => rfl); (case hdst => rfl); (case hd => rfl))
    | ((with_reducible have hB : (conf_within.f _ _ _).bind _ = some _ := H); clear hB; (replace H := bind_some' H); (obtain ⟨t_, H1, H⟩ := H); (try dsimp only at H); (with_reducible apply ROps.call); (case hop => rfl); (case hc => exact conf_within.ok H1); (case ha => exact argsX); (case hw => rfl); (case hdst => rfl); (case hd => rfl))
    | ((with_reducible have hB : (addr_Fair.f _ _).bind _ = some _ := H); clear hB; (replace H := bind_some' H); (obtain ⟨t_, H1, H⟩ := H); (try dsimp only at H); (with_reducible apply ROps.call); (case hop => rfl); (case hc => exact addr_Fair.ok H1); (case ha => exact argsX); (case hw => rfl); (case hdst => rfl); (case hd => rfl))
    | ((with_reducible have hB : (key_Right.f _).bind _ = some _ := H); clear hB; (replace H := bind_some' H); (obtain ⟨t_, H1, H⟩ := H); (try dsimp only at H); (with_reducible apply ROps.call); (case hop => rfl); (case hc => exact key_Right.ok H1); (case ha => exact argsX); (case hw => rfl); (case hdst => rfl); (case hd => rfl))
    | ((with_reducible apply Runs.loopK1 ((fun i0 i1 i2 i3 i4 i5 i6 i7 i8 => fun kk (v0_46 : Int) => conf_fair.l0 kk i0 i1 v0_46 i2 i3 i4 i5 i6 i7 i8) _ _ _ _ _ _ _ _ _) [1, 44, 45] [] (fun b v0_46 => [(46, .imm (.int .i64 v0_46))]) (fun v0_46 => []) _ _ [] H); (case h0 => intros; rfl); (any_goals (clear H; intro k0 hk0 ih0 v0_46 H; replace H : conf_fair.l0 (k0 + 1) _ _ v0_46 _ _ _ _ _ _ _ = some _ := H; rw [conf_fair.l0] at H)))
    | (with_reducible apply ih0 _ _ [] _ _ (by omega) H)
    | ((with_reducible apply Runs.loopK1 ((fun i0 i1 => fun kk (v1_59 : Int) => conf_fair.l1 kk i0 i1 v1_59) _ _) [57, 58] [] (fun b v1_59 => [(59, .imm (.int .i64 v1_59))]) (fun v1_59 => []) _ _ [] H); (case h0 => intros; rfl); (any_goals (clear H; intro k1 hk1 ih1 v1_59 H; replace H : conf_fair.l1 (k1 + 1) _ _ v1_59 = some _ := H; rw [conf_fair.l1] at H)))
    | (with_reducible apply ih1 _ _ [] _ _ (by omega) H)
    | ((with_reducible apply Runs.retP tysOK); (case hrs => rfl); (case h => rfl); (case hr => (cases H; exact refX)); (case hx => rfl))
    | exact leRX)
end Go.Proofs.Ytdcabfonjmeajaa.PAlloc
set_option linter.unusedVariables false
set_option linter.unusedSimpArgs false
namespace Go.Proofs.Ytdcabfonjmeajaa.PAlloc
open Go.RowKit Go.Proofs.YtdcabfonjmeajaaW.PrintWords Go.Proofs.YtdcabfonjmeajaaW.PrintLast Go.Proofs.YtdcabfonjmeajaaW.PrintMore Go.Proofs.Ytdcabfonjmeajaa.Abs
/-! ### conf_form: function 40 -/
mutual
def conf_form.j0 : Nat → Bool → Int → Int → List (S41) → Option (Bool)
  | 0, _, _, _, _ => none
  | k + 1, x22, x133000, x133001, x133002 => if x22 = true then (some false) else (conf_form.l0 k x133002 (x133002.length : Int) 0 x133000 x133001 x133002)
def conf_form.l0 : Nat → List (S41) → Int → Int → Int → Int → List (S41) → Option (Bool)
  | 0, _, _, _, _, _, _ => none
  | k + 1, x24, x25, x26, x133000, x133001, x133002 => if x26 < x25 then (if 0 ≤ x26 then (if x26 < (x24.length : Int) then ((conf_within.f (((rd_T41 x24 x26).f0).length : Int) 1 4).bind fun t137 => (if t137 = true then (conf_form.l0 k x24 x25 (wrap64 (x26 + 1)) x133000 x133001 x133002) else (some false))) else (none)) else (none)) else ((conf_spots.f k x133000 x133001 x133002).bind fun t138 => (conf_form.l1 k t138 (t138.length : Int) 0))
def conf_form.l1 : Nat → List (S66) → Int → Int → Option (Bool)
  | 0, _, _, _ => none
  | k + 1, x37, x38, x39 => if x39 < x38 then (if 0 ≤ x39 then (if x39 < (x37.length : Int) then ((conf_fair.f k ((rd_T66 x37 x39).f2.f0) ((rd_T66 x37 x39).f2.f1) ((rd_T66 x37 x39).f2.f2) ((rd_T66 x37 x39).f2.f3) ((rd_T66 x37 x39).f2.f4) ((rd_T66 x37 x39).f2.f5) ((rd_T66 x37 x39).f2.f6)).bind fun t143 => (if t143 = true then (conf_form.l1 k x37 x38 (wrap64 (x39 + 1))) else (some false))) else (none)) else (none)) else (some true)
end
def conf_form.f (k : Nat) (a0_0 : Int) (a0_1 : Int) (l0_2 : List (S41)) : Option (Bool) := (addr_Right.f a0_0).bind fun t133 => (if t133 = true then ((conf_within.f a0_1 1 2147483648).bind fun t134 => (if t134 = true then (conf_form.j0 k (decide ((l0_2.length : Int) > 4)) a0_0 a0_1 l0_2) else (conf_form.j0 k true a0_0 a0_1 l0_2))) else (conf_form.j0 k true a0_0 a0_1 l0_2))
noncomputable def conf_form.cx : Cx := ⟨Try.prog, tys, glo, 48, Try.f40, [.tmp 2]⟩
set_option maxHeartbeats 16000000 in
set_option maxRecDepth 100000 in
theorem conf_form.ok {k : Nat} {a0_0 : Int} {a0_1 : Int} {l0_2 : List (S41)} {r0 : Bool} (H : conf_form.f k a0_0 a0_1 l0_2 = some r0) : CallOK Try.prog glo 40 [.agg [.imm (.int .i64 a0_0), .imm (.int .i64 a0_1), vS41 l0_2]] (.imm (.bool r0)) := by
  unfold conf_form.f at H
  refine CallOK.of (c := conf_form.cx) Try.func40 (show (conf_form.cx).fn.body = some _ from rfl) rfl rfl (Nat.le_of_ble_eq_true rfl) ?_
  repeat' (first
    | ((with_reducible have hJ : conf_form.j0 k _ _ _ _ = some _ := H); clear hJ; (rcases k with _ | k); (rw [conf_form.j0] at H; cases H); (rw [conf_form.j0] at H))
    | ((with_reducible have hJ : conf_form.j0 k0 _ _ _ _ = some _ := H); clear hJ; (rcases k0 with _ | k0); (rw [conf_form.j0] at H; cases H); (rw [conf_form.j0] at H))
    | ((with_reducible have hJ : conf_form.j0 k1 _ _ _ _ = some _ := H); clear hJ; (rcases k1 with _ | k1); (rw [conf_form.j0] at H; cases H); (rw [conf_form.j0] at H))
    | ((with_reducible replace H := some_ite H); obtain ⟨_, H⟩ := H)
    | (with_reducible replace H := some_bind_ H)
    | (with_reducible replace H := true_ite H)
    | (with_reducible replace H := false_ite H)
    | ((with_reducible have hb := bool_ite H); clear H; rcases hb with ⟨e_, H⟩ | ⟨e_, H⟩ <;> subst e_)
    | ((with_reducible apply ROps.pure); (case hop => rfl); (case hw => rfl); (case hdst => rfl); (case hd => rfl))
    | (with_reducible apply ROps.nil)
    | (with_reducible apply Runs.seq)
    | (with_reducible apply Runs.region tysOK)
    | (with_reducible apply Runs.block)
    | (with_reducible apply Runs.skip)
    | (with_reducible apply Runs.inBlock)
    | (with_reducible apply Runs.scope)
    | (with_reducible apply Runs.inScope)
    | (with_reducible apply Runs.label)
    | ((with_reducible apply Runs.condT); (case ho => rfl))
    | ((with_reducible apply Runs.condF); (case ho => rfl))
    | ((with_reducible apply Runs.exit); (case he => rfl))
    | ((with_reducible apply ROps.store); (case hop => rfl); (all_goals try rfl))
    | ((with_reducible apply ROps.cmp); (case hop => exact cmpX); (case hw => rfl); (case hdst => rfl); (case hd => rfl); (all_goals (intro h; first | (replace H := ite_pos_ h H) | (replace H := ite_neg_ h H) | (replace H := dec_pos h H) | (replace H := dec_neg h H) | (replace H := dec_t h H) | (replace H := dec_f h H) | (replace H := ite_pos_ (Decidable.not_not.1 h) H) | ((try simp only [rd_T41, rd_T66, rdOf] at h); (try simp only [rd_T41, rd_T66, rdOf] at H); (rw [decide_eq_true h] at H)) | ((try simp only [rd_T41, rd_T66, rdOf] at h); (try simp only [rd_T41, rd_T66, rdOf] at H); (rw [decide_eq_false h] at H)) | ((try simp only [rd_T41, rd_T66, rdOf] at h); (try simp only [rd_T41, rd_T66, rdOf] at H); (rw [if_pos h] at H)) | ((try simp only [rd_T41, rd_T66, rdOf] at h); (try simp only [rd_T41, rd_T66, rdOf] at H); (rw [if_neg h] at H)) | contradiction | skip)))
    | ((with_reducible apply ROps.val); (case hop => exact valX); (case hw => rfl); (case hdst => rfl); (case hd => rfl))
    | ((with_reducible apply ROps.idx); (case hop => rfl); (case hx => rfl); (case hi => rfl); (case he => rfl); (case hw => rfl); (case hdst => rfl); (case hd => rfl); (case h0 => first | assumption | omega); (case h1 => first | assumption | omega))
    | ((with_reducible apply ROps.alloc); (case hop => rfl); (all_goals try rfl))
    | ((with_reducible apply ROps.box); (case hop => rfl); (case hx => rfl); (case hrf => rfl); (all_goals try rfl))
    | ((with_reducible apply ROps.off); (case hw => rfl); (case hdst => rfl); (case hd => rfl))
    | ((with_reducible have hB : (addr_Right.f _).bind _ = some _ := H); clear hB; (replace H := bind_some' H); (obtain ⟨t_, H1, H⟩ := H); (try dsimp only at H); (with_reducible apply ROps.call); (case hop => rfl); (case hc => exact addr_Right.ok H1); (case ha => exact argsX); (case hw => rfl); (case hdst => rfl); (case hd => rfl))
    | ((with_reducible have hB : (conf_within.f _ _ _).bind _ = some _ := H); clear hB; (replace H := bind_some' H); (obtain ⟨t_, H1, H⟩ := H); (try dsimp only at H); (with_reducible apply ROps.call); (case hop => rfl); (case hc => exact conf_within.ok H1); (case ha => exact argsX); (case hw => rfl); (case hdst => rfl); (case hd => rfl))
    | ((with_reducible have hB : (conf_spots.f _ _ _ _).bind _ = some _ := H); clear hB; (replace H := bind_some' H); (obtain ⟨t_, H1, H⟩ := H); (try dsimp only at H); (with_reducible apply ROps.call); (case hop => rfl); (case hc => exact conf_spots.ok H1); (case ha => exact argsX); (case hw => rfl); (case hdst => rfl); (case hd => rfl))
    | ((with_reducible have hB : (conf_fair.f _ _ _ _ _ _ _ _).bind _ = some _ := H); clear hB; (replace H := bind_some' H); (obtain ⟨t_, H1, H⟩ := H); (try dsimp only at H); (with_reducible apply ROps.call); (case hop => rfl); (case hc => exact conf_fair.ok H1); (case ha => exact argsX); (case hw => rfl); (case hdst => rfl); (case hd => rfl))
    | ((with_reducible apply Runs.loopK1 ((fun i0 i1 i2 i3 i4 => fun kk (v0_26 : Int) => conf_form.l0 kk i0 i1 v0_26 i2 i3 i4) _ _ _ _ _) [1, 24, 25] [] (fun b v0_26 => [(26, .imm (.int .i64 v0_26))]) (fun v0_26 => []) _ _ [] H); (case h0 => intros; rfl); (any_goals (clear H; intro k0 hk0 ih0 v0_26 H; replace H : conf_form.l0 (k0 + 1) _ _ v0_26 _ _ _ = some _ := H; rw [conf_form.l0] at H)))
    | (with_reducible apply ih0 _ _ [] _ _ (by omega) H)
    | ((with_reducible apply Runs.loopK1 ((fun i0 i1 => fun kk (v1_39 : Int) => conf_form.l1 kk i0 i1 v1_39) _ _) [37, 38] [] (fun b v1_39 => [(39, .imm (.int .i64 v1_39))]) (fun v1_39 => []) _ _ [] H); (case h0 => intros; rfl); (any_goals (clear H; intro k1 hk1 ih1 v1_39 H; replace H : conf_form.l1 (k1 + 1) _ _ v1_39 = some _ := H; rw [conf_form.l1] at H)))
    | (with_reducible apply ih1 _ _ [] _ _ (by omega) H)
    | ((with_reducible apply Runs.retP tysOK); (case hrs => rfl); (case h => rfl); (case hr => (cases H; exact refX)); (case hx => rfl))
    | exact leRX)
end Go.Proofs.Ytdcabfonjmeajaa.PAlloc
set_option linter.unusedVariables false
set_option linter.unusedSimpArgs false
namespace Go.Proofs.Ytdcabfonjmeajaa.PAlloc
open Go.RowKit Go.Proofs.YtdcabfonjmeajaaW.PrintWords Go.Proofs.YtdcabfonjmeajaaW.PrintLast Go.Proofs.YtdcabfonjmeajaaW.PrintMore Go.Proofs.Ytdcabfonjmeajaa.Abs
/-! ### conf_has: function 48 -/
def conf_has.f (a0_0 : Int) (a0_1 : Int) (a1 : Int) : Option (Bool) := (conf_within.f a1 a0_0 a0_1).bind fun t145 => (some t145)
noncomputable def conf_has.cx : Cx := ⟨Try.prog, tys, glo, 11, Try.f48, [.tmp 4]⟩
set_option maxHeartbeats 16000000 in
set_option maxRecDepth 100000 in
theorem conf_has.ok {a0_0 : Int} {a0_1 : Int} {a1 : Int} {r0 : Bool} (H : conf_has.f a0_0 a0_1 a1 = some r0) : CallOK Try.prog glo 48 [.agg [.imm (.int .i64 a0_0), .imm (.int .i64 a0_1)], .imm (.int .i64 a1)] (.imm (.bool r0)) := by
  unfold conf_has.f at H
  refine CallOK.of (c := conf_has.cx) Try.func48 (show (conf_has.cx).fn.body = some _ from rfl) rfl rfl (Nat.le_of_ble_eq_true rfl) ?_
  repeat' (first
    | ((with_reducible replace H := some_ite H); obtain ⟨_, H⟩ := H)
    | ((with_reducible apply ROps.pure); (case hop => rfl); (case hw => rfl); (case hdst => rfl); (case hd => rfl))
    | (with_reducible apply ROps.nil)
    | (with_reducible apply Runs.seq)
    | (with_reducible apply Runs.region tysOK)
    | (with_reducible apply Runs.scope)
    | (with_reducible apply Runs.inScope)
    | (with_reducible apply Runs.label)
    | ((with_reducible apply ROps.box); (case hop => rfl); (case hx => rfl); (case hrf => rfl); (all_goals try rfl))
    | ((with_reducible have hB : (conf_within.f _ _ _).bind _ = some _ := H); clear hB; (replace H := bind_some' H); (obtain ⟨t_, H1, H⟩ := H); (try dsimp only at H); (with_reducible apply ROps.call); (case hop => rfl); (case hc => exact conf_within.ok H1); (case ha => exact argsX); (case hw => rfl); (case hdst => rfl); (case hd => rfl))
    | ((with_reducible apply Runs.retP tysOK); (case hrs => rfl); (case h => rfl); (case hr => (cases H; exact refX)); (case hx => rfl))
    | exact leRX)
end Go.Proofs.Ytdcabfonjmeajaa.PAlloc
set_option linter.unusedVariables false
set_option linter.unusedSimpArgs false
namespace Go.Proofs.Ytdcabfonjmeajaa.PAlloc
open Go.RowKit Go.Proofs.YtdcabfonjmeajaaW.PrintWords Go.Proofs.YtdcabfonjmeajaaW.PrintLast Go.Proofs.YtdcabfonjmeajaaW.PrintMore Go.Proofs.Ytdcabfonjmeajaa.Abs
/-! ### addr_Has: function 49 -/
def addr_Has.f (a0 : Int) (a1 : Int) (a2 : Int) : Option (Bool) := (addr_Fair.f a0 a1).bind fun t146 => (if t146 = true then ((addr_Right.f a2).bind fun t147 => (if t147 = true then ((addr_mask.f a1).bind fun t148 => (some ((Go.bits .and .i64 a2 t148) == a0))) else (some false))) else (some false))
noncomputable def addr_Has.cx : Cx := ⟨Try.prog, tys, glo, 22, Try.f49, [.tmp 6]⟩
set_option maxHeartbeats 16000000 in
set_option maxRecDepth 100000 in
theorem addr_Has.ok {a0 : Int} {a1 : Int} {a2 : Int} {r0 : Bool} (H : addr_Has.f a0 a1 a2 = some r0) : CallOK Try.prog glo 49 [.imm (.int .i64 a0), .imm (.int .i64 a1), .imm (.int .i64 a2)] (.imm (.bool r0)) := by
  unfold addr_Has.f at H
  refine CallOK.of (c := addr_Has.cx) Try.func49 (show (addr_Has.cx).fn.body = some _ from rfl) rfl rfl (Nat.le_of_ble_eq_true rfl) ?_
  repeat' (first
    | ((with_reducible replace H := some_ite H); obtain ⟨_, H⟩ := H)
    | (with_reducible replace H := some_bind_ H)
    | (with_reducible replace H := true_ite H)
    | (with_reducible replace H := false_ite H)
    | ((with_reducible have hb := bool_ite H); clear H; rcases hb with ⟨e_, H⟩ | ⟨e_, H⟩ <;> subst e_)
    | ((with_reducible apply ROps.pure); (case hop => rfl); (case hw => rfl); (case hdst => rfl); (case hd => rfl))
    | (with_reducible apply ROps.nil)
    | (with_reducible apply Runs.seq)
    | (with_reducible apply Runs.region tysOK)
    | (with_reducible apply Runs.scope)
    | (with_reducible apply Runs.inScope)
    | (with_reducible apply Runs.label)
    | ((with_reducible apply ROps.cmp); (case hop => exact cmpX); (case hw => rfl); (case hdst => rfl); (case hd => rfl); (all_goals (intro h; first | (replace H := ite_pos_ h H) | (replace H := ite_neg_ h H) | (replace H := dec_pos h H) | (replace H := dec_neg h H) | (replace H := dec_t h H) | (replace H := dec_f h H) | (replace H := beq_pos h H) | (replace H := beq_neg h H) | (replace H := beq_tt h H) | (replace H := beq_ff h H) | (replace H := ite_pos_ (Decidable.not_not.1 h) H) | (replace H := beq_pos (Decidable.not_not.1 h) H) | (replace H := beq_tt (Decidable.not_not.1 h) H) | ((try simp only [rdOf] at h); (try simp only [rdOf] at H); (rw [decide_eq_true h] at H)) | ((try simp only [rdOf] at h); (try simp only [rdOf] at H); (rw [decide_eq_false h] at H)) | ((try simp only [rdOf] at h); (try simp only [rdOf] at H); (rw [beq_t h] at H)) | ((try simp only [rdOf] at h); (try simp only [rdOf] at H); (rw [beq_f h] at H)) | ((try simp only [rdOf] at h); (try simp only [rdOf] at H); (rw [beq_t (Decidable.not_not.1 h)] at H)) | ((try simp only [rdOf] at h); (try simp only [rdOf] at H); (rw [if_pos h] at H)) | ((try simp only [rdOf] at h); (try simp only [rdOf] at H); (rw [if_neg h] at H)) | contradiction | skip)))
    | ((with_reducible apply ROps.val); (case hop => exact valX); (case hw => rfl); (case hdst => rfl); (case hd => rfl))
    | ((with_reducible apply ROps.off); (case hw => rfl); (case hdst => rfl); (case hd => rfl))
    | ((with_reducible have hB : (addr_Right.f _).bind _ = some _ := H); clear hB; (replace H := bind_some' H); (obtain ⟨t_, H1, H⟩ := H); (try dsimp only at H); (with_reducible apply ROps.call); (case hop => rfl); (case hc => exact addr_Right.ok H1); (case ha => exact argsX); (case hw => rfl); (case hdst => rfl); (case hd => rfl))
    | ((with_reducible have hB : (addr_Fair.f _ _).bind _ = some _ := H); clear hB; (replace H := bind_some' H); (obtain ⟨t_, H1, H⟩ := H); (try dsimp only at H); (with_reducible apply ROps.call); (case hop => rfl); (case hc => exact addr_Fair.ok H1); (case ha => exact argsX); (case hw => rfl); (case hdst => rfl); (case hd => rfl))
    | ((with_reducible have hB : (addr_mask.f _).bind _ = some _ := H); clear hB; (replace H := bind_some' H); (obtain ⟨t_, H1, H⟩ := H); (try dsimp only at H); (with_reducible apply ROps.call); (case hop => rfl); (case hc => exact addr_mask.ok H1); (case ha => exact argsX); (case hw => rfl); (case hdst => rfl); (case hd => rfl))
    | ((with_reducible apply Runs.retP tysOK); (case hrs => rfl); (case h => rfl); (case hr => (cases H; exact refX)); (case hx => rfl))
    | exact leRX)
end Go.Proofs.Ytdcabfonjmeajaa.PAlloc
set_option linter.unusedVariables false
set_option linter.unusedSimpArgs false
namespace Go.Proofs.Ytdcabfonjmeajaa.PAlloc
open Go.RowKit Go.Proofs.YtdcabfonjmeajaaW.PrintWords Go.Proofs.YtdcabfonjmeajaaW.PrintLast Go.Proofs.YtdcabfonjmeajaaW.PrintMore Go.Proofs.Ytdcabfonjmeajaa.Abs
/-! ### addr_Last: function 85 -/
def addr_Last.f (a0 : Int) (a1 : Int) : Option (Int × Int) := (addr_Fair.f a0 a1).bind fun t149 => (if t149 = true then ((addr_mask.f a1).bind fun t150 => (some (Go.bits .or .i64 a0 (Go.bits .andNot .i64 4294967295 t150), 0))) else (some (0, 1)))
noncomputable def addr_Last.cx : Cx := ⟨Try.prog, tys, glo, 15, Try.f85, [.tmp 4, .tmp 5]⟩
set_option maxHeartbeats 16000000 in
set_option maxRecDepth 100000 in
theorem addr_Last.ok {a0 : Int} {a1 : Int} {r0 : Int} {r1 : Int} (H : addr_Last.f a0 a1 = some (r0, r1)) : CallOK Try.prog glo 85 [.imm (.int .i64 a0), .imm (.int .i64 a1)] (.tup [.imm (.int .i64 r0), .imm (.int .i64 r1)]) := by
  unfold addr_Last.f at H
  refine CallOK.of (c := addr_Last.cx) Try.func85 (show (addr_Last.cx).fn.body = some _ from rfl) rfl rfl (Nat.le_of_ble_eq_true rfl) ?_
  repeat' (first
    | ((with_reducible replace H := some_ite H); obtain ⟨_, H⟩ := H)
    | (with_reducible replace H := some_bind_ H)
    | (with_reducible replace H := true_ite H)
    | (with_reducible replace H := false_ite H)
    | ((with_reducible have hb := bool_ite H); clear H; rcases hb with ⟨e_, H⟩ | ⟨e_, H⟩ <;> subst e_)
    | ((with_reducible apply ROps.pure); (case hop => rfl); (case hw => rfl); (case hdst => rfl); (case hd => rfl))
    | (with_reducible apply ROps.nil)
    | (with_reducible apply Runs.seq)
    | (with_reducible apply Runs.region tysOK)
    | (with_reducible apply Runs.skip)
    | (with_reducible apply Runs.scope)
    | (with_reducible apply Runs.inScope)
    | (with_reducible apply Runs.label)
    | ((with_reducible apply Runs.condT); (case ho => rfl))
    | ((with_reducible apply Runs.condF); (case ho => rfl))
    | ((with_reducible apply ROps.val); (case hop => exact valX); (case hw => rfl); (case hdst => rfl); (case hd => rfl))
    | ((with_reducible have hB : (addr_Fair.f _ _).bind _ = some _ := H); clear hB; (replace H := bind_some' H); (obtain ⟨t_, H1, H⟩ := H); (try dsimp only at H); (with_reducible apply ROps.call); (case hop => rfl); (case hc => exact addr_Fair.ok H1); (case ha => exact argsX); (case hw => rfl); (case hdst => rfl); (case hd => rfl))
    | ((with_reducible have hB : (addr_mask.f _).bind _ = some _ := H); clear hB; (replace H := bind_some' H); (obtain ⟨t_, H1, H⟩ := H); (try dsimp only at H); (with_reducible apply ROps.call); (case hop => rfl); (case hc => exact addr_mask.ok H1); (case ha => exact argsX); (case hw => rfl); (case hdst => rfl); (case hd => rfl))
    | ((with_reducible apply Runs.retP tysOK); (case hrs => rfl); (case h => rfl); (case hr => (cases H; exact refX)); (case hx => rfl))
    | exact leRX)
end Go.Proofs.Ytdcabfonjmeajaa.PAlloc
set_option linter.unusedVariables false
set_option linter.unusedSimpArgs false
namespace Go.Proofs.Ytdcabfonjmeajaa.PAlloc
open Go.RowKit Go.Proofs.YtdcabfonjmeajaaW.PrintWords Go.Proofs.YtdcabfonjmeajaaW.PrintLast Go.Proofs.YtdcabfonjmeajaaW.PrintMore Go.Proofs.Ytdcabfonjmeajaa.Abs
/-! ### conf_inside: function 68 -/
def conf_inside.f (a0_0 : Int) (a0_1 : Int) (l0_2 : List (S62)) (l0_3 : List (S59)) (a0_4 : Int) (a0_5 : Int) (a0_6 : Int) (a1 : Int) : Option (Bool) := (addr_Last.f a0_0 a0_1).bind fun bt152 => (if a1 > a0_0 then (some (decide (a1 < bt152.1))) else (some false))
noncomputable def conf_inside.cx : Cx := ⟨Try.prog, tys, glo, 24, Try.f68, [.tmp 4]⟩
set_option maxHeartbeats 16000000 in
set_option maxRecDepth 100000 in
theorem conf_inside.ok {a0_0 : Int} {a0_1 : Int} {l0_2 : List (S62)} {l0_3 : List (S59)} {a0_4 : Int} {a0_5 : Int} {a0_6 : Int} {a1 : Int} {r0 : Bool} (H : conf_inside.f a0_0 a0_1 l0_2 l0_3 a0_4 a0_5 a0_6 a1 = some r0) : CallOK Try.prog glo 68 [.agg [.imm (.int .i64 a0_0), .imm (.int .i64 a0_1), vS62 l0_2, vS59 l0_3, .imm (.int .i64 a0_4), .imm (.int .i64 a0_5), .imm (.int .i64 a0_6)], .imm (.int .i64 a1)] (.imm (.bool r0)) := by
  unfold conf_inside.f at H
  refine CallOK.of (c := conf_inside.cx) Try.func68 (show (conf_inside.cx).fn.body = some _ from rfl) rfl rfl (Nat.le_of_ble_eq_true rfl) ?_
  repeat' (first
    | ((with_reducible replace H := some_ite H); obtain ⟨_, H⟩ := H)
    | (with_reducible replace H := true_ite H)
    | (with_reducible replace H := false_ite H)
    | ((with_reducible have hb := bool_ite H); clear H; rcases hb with ⟨e_, H⟩ | ⟨e_, H⟩ <;> subst e_)
    | ((with_reducible apply ROps.pure); (case hop => rfl); (case hw => rfl); (case hdst => rfl); (case hd => rfl))
    | (with_reducible apply ROps.nil)
    | (with_reducible apply Runs.seq)
    | (with_reducible apply Runs.region tysOK)
    | (with_reducible apply Runs.scope)
    | (with_reducible apply Runs.inScope)
    | (with_reducible apply Runs.label)
    | ((with_reducible apply ROps.cmp); (case hop => exact cmpX); (case hw => rfl); (case hdst => rfl); (case hd => rfl); (all_goals (intro h; first | (replace H := ite_pos_ h H) | (replace H := ite_neg_ h H) | (replace H := dec_pos h H) | (replace H := dec_neg h H) | (replace H := dec_t h H) | (replace H := dec_f h H) | (replace H := ite_pos_ (Decidable.not_not.1 h) H) | ((try simp only [rdOf] at h); (try simp only [rdOf] at H); (rw [decide_eq_true h] at H)) | ((try simp only [rdOf] at h); (try simp only [rdOf] at H); (rw [decide_eq_false h] at H)) | ((try simp only [rdOf] at h); (try simp only [rdOf] at H); (rw [if_pos h] at H)) | ((try simp only [rdOf] at h); (try simp only [rdOf] at H); (rw [if_neg h] at H)) | contradiction | skip)))
    | ((with_reducible apply ROps.box); (case hop => rfl); (case hx => rfl); (case hrf => rfl); (all_goals try rfl))
    | ((with_reducible apply ROps.off); (case hw => rfl); (case hdst => rfl); (case hd => rfl))
    | ((with_reducible have hB : (addr_Last.f _ _).bind _ = some _ := H); clear hB; (replace H := bind_some' H); (obtain ⟨⟨t_0, t_1⟩, H1, H⟩ := H); (try dsimp only at H); (with_reducible apply ROps.call); (case hop => rfl); (case hc => exact addr_Last.ok H1); (case ha => exact argsX); (case hw => rfl); (case hdst => rfl); (case hd => rfl))
    | ((with_reducible apply Runs.retP tysOK); (case hrs => rfl); (case h => rfl); (case hr => (cases H; exact refX)); (case hx => rfl))
    | exact leRX)
end Go.Proofs.Ytdcabfonjmeajaa.PAlloc
set_option linter.unusedVariables false
set_option linter.unusedSimpArgs false
namespace Go.Proofs.Ytdcabfonjmeajaa.PAlloc
open Go.RowKit Go.Proofs.YtdcabfonjmeajaaW.PrintWords Go.Proofs.YtdcabfonjmeajaaW.PrintLast Go.Proofs.YtdcabfonjmeajaaW.PrintMore Go.Proofs.Ytdcabfonjmeajaa.Abs
/-! ### conf_placed: function 41 -/
mutual
def conf_placed.l0 : Nat → List (S66) → Int → Int → Int → Int → List (S41) → Option (Bool)
  | 0, _, _, _, _, _, _ => none
  | k + 1, x10, x11, x12, x155000, x155001, x155002 => if x12 < x11 then (if 0 ≤ x12 then (if x12 < (x10.length : Int) then (conf_placed.l1 k x10 x11 x12 ((rd_T66 x10 x12).f2.f2) (((rd_T66 x10 x12).f2.f2).length : Int) 0 x155000 x155001 x155002 ((rd_T66 x10 x12).f0) ((rd_T66 x10 x12).f1) ((rd_T66 x10 x12).f2.f0) ((rd_T66 x10 x12).f2.f1) ((rd_T66 x10 x12).f2.f2) ((rd_T66 x10 x12).f2.f3) ((rd_T66 x10 x12).f2.f4) ((rd_T66 x10 x12).f2.f5) ((rd_T66 x10 x12).f2.f6)) else (none)) else (none)) else (some true)
def conf_placed.l1 : Nat → List (S66) → Int → Int → List (S62) → Int → Int → Int → Int → List (S41) → Int → Int → Int → Int → List (S62) → List (S59) → Int → Int → Int → Option (Bool)
  | 0, _, _, _, _, _, _, _, _, _, _, _, _, _, _, _, _, _, _ => none
  | k + 1, x10, x11, x12, x18, x19, x20, x155000, x155001, x155002, x160000, x160001, x160002, x160003, x160004, x160005, x160006, x160007, x160008 => if x20 < x19 then (if 0 ≤ x20 then (if x20 < (x18.length : Int) then ((conf_inside.f x160002 x160003 x160004 x160005 x160006 x160007 x160008 ((rd_T62 x18 x20).f0)).bind fun t162 => (if t162 = true then ((conf_inside.f x160002 x160003 x160004 x160005 x160006 x160007 x160008 ((rd_T62 x18 x20).f1)).bind fun t163 => (if t163 = true then ((conf_has.f ((rd_T62 x18 x20).f0) ((rd_T62 x18 x20).f1) x155000).bind fun t164 => (if t164 = true then (some false) else (conf_placed.l1 k x10 x11 x12 x18 x19 (wrap64 (x20 + 1)) x155000 x155001 x155002 x160000 x160001 x160002 x160003 x160004 x160005 x160006 x160007 x160008))) else (some false))) else (some false))) else (none)) else (none)) else (conf_placed.l2 k x10 x11 x12 x160005 (x160005.length : Int) 0 x155000 x155001 x155002 x160000 x160001 x160002 x160003 x160004 x160005 x160006 x160007 x160008)
def conf_placed.l2 : Nat → List (S66) → Int → Int → List (S59) → Int → Int → Int → Int → List (S41) → Int → Int → Int → Int → List (S62) → List (S59) → Int → Int → Int → Option (Bool)
  | 0, _, _, _, _, _, _, _, _, _, _, _, _, _, _, _, _, _, _ => none
  | k + 1, x10, x11, x12, x47, x48, x49, x155000, x155001, x155002, x160000, x160001, x160002, x160003, x160004, x160005, x160006, x160007, x160008 => if x49 < x48 then (if 0 ≤ x49 then (if x49 < (x47.length : Int) then ((conf_inside.f x160002 x160003 x160004 x160005 x160006 x160007 x160008 ((rd_T59 x47 x49).f1)).bind fun t167 => (if t167 = true then (if ((rd_T59 x47 x49).f1) = x155000 then (some false) else (conf_placed.l2 k x10 x11 x12 x47 x48 (wrap64 (x49 + 1)) x155000 x155001 x155002 x160000 x160001 x160002 x160003 x160004 x160005 x160006 x160007 x160008)) else (some false))) else (none)) else (none)) else (if x160007 = 0 then (conf_placed.l0 k x10 x11 (wrap64 (x12 + 1)) x155000 x155001 x155002) else ((addr_Has.f x160002 x160003 x160007).bind fun t168 => (if t168 = true then (conf_placed.l0 k x10 x11 (wrap64 (x12 + 1)) x155000 x155001 x155002) else (some false))))
end
def conf_placed.f (k : Nat) (a0_0 : Int) (a0_1 : Int) (l0_2 : List (S41)) : Option (Bool) := (conf_spots.f k a0_0 a0_1 l0_2).bind fun t155 => (conf_placed.l0 k t155 (t155.length : Int) 0 a0_0 a0_1 l0_2)
noncomputable def conf_placed.cx : Cx := ⟨Try.prog, tys, glo, 85, Try.f41, [.tmp 2]⟩
set_option maxHeartbeats 16000000 in
set_option maxRecDepth 100000 in
theorem conf_placed.ok {k : Nat} {a0_0 : Int} {a0_1 : Int} {l0_2 : List (S41)} {r0 : Bool} (H : conf_placed.f k a0_0 a0_1 l0_2 = some r0) : CallOK Try.prog glo 41 [.agg [.imm (.int .i64 a0_0), .imm (.int .i64 a0_1), vS41 l0_2]] (.imm (.bool r0)) := by
  unfold conf_placed.f at H
  refine CallOK.of (c := conf_placed.cx) Try.func41 (show (conf_placed.cx).fn.body = some _ from rfl) rfl rfl (Nat.le_of_ble_eq_true rfl) ?_
  repeat' (first
    | ((with_reducible replace H := some_ite H); obtain ⟨_, H⟩ := H)
    | (with_reducible replace H := true_ite H)
    | (with_reducible replace H := false_ite H)
    | ((with_reducible have hb := bool_ite H); clear H; rcases hb with ⟨e_, H⟩ | ⟨e_, H⟩ <;> subst e_)
    | ((with_reducible apply ROps.pure); (case hop => rfl); (case hw => rfl); (case hdst => rfl); (case hd => rfl))
    | (with_reducible apply ROps.nil)
    | (with_reducible apply Runs.seq)
    | (with_reducible apply Runs.region tysOK)
    | (with_reducible apply Runs.block)
    | (with_reducible apply Runs.skip)
    | (with_reducible apply Runs.inBlock)
    | (with_reducible apply Runs.scope)
    | (with_reducible apply Runs.inScope)
    | (with_reducible apply Runs.label)
    | ((with_reducible apply Runs.condT); (case ho => rfl))
    | ((with_reducible apply Runs.condF); (case ho => rfl))
    | ((with_reducible apply Runs.exit); (case he => rfl))
    | ((with_reducible apply ROps.store); (case hop => rfl); (all_goals try rfl))
    | ((with_reducible apply ROps.cmp); (case hop => exact cmpX); (case hw => rfl); (case hdst => rfl); (case hd => rfl); (all_goals (intro h; first | (replace H := ite_pos_ h H) | (replace H := ite_neg_ h H) | (replace H := dec_pos h H) | (replace H := dec_neg h H) | (replace H := dec_t h H) | (replace H := dec_f h H) | (replace H := beq_pos h H) | (replace H := beq_neg h H) | (replace H := beq_tt h H) | (replace H := beq_ff h H) | (replace H := ite_pos_ (Decidable.not_not.1 h) H) | (replace H := beq_pos (Decidable.not_not.1 h) H) | (replace H := beq_tt (Decidable.not_not.1 h) H) | ((try simp only [rd_T59, rd_T62, rd_T66, rdOf] at h); (try simp only [rd_T59, rd_T62, rd_T66, rdOf] at H); (rw [decide_eq_true h] at H)) | ((try simp only [rd_T59, rd_T62, rd_T66, rdOf] at h); (try simp only [rd_T59, rd_T62, rd_T66, rdOf] at H); (rw [decide_eq_false h] at H)) | ((try simp only [rd_T59, rd_T62, rd_T66, rdOf] at h); (try simp only [rd_T59, rd_T62, rd_T66, rdOf] at H); (rw [beq_t h] at H)) | ((try simp only [rd_T59, rd_T62, rd_T66, rdOf] at h); (try simp only [rd_T59, rd_T62, rd_T66, rdOf] at H); (rw [beq_f h] at H)) | ((try simp only [rd_T59, rd_T62, rd_T66, rdOf] at h); (try simp only [rd_T59, rd_T62, rd_T66, rdOf] at H); (rw [bne_t h] at H)) | ((try simp only [rd_T59, rd_T62, rd_T66, rdOf] at h); (try simp only [rd_T59, rd_T62, rd_T66, rdOf] at H); (rw [bne_f h] at H)) | ((try simp only [rd_T59, rd_T62, rd_T66, rdOf] at h); (try simp only [rd_T59, rd_T62, rd_T66, rdOf] at H); (rw [beq_t (Decidable.not_not.1 h)] at H)) | ((try simp only [rd_T59, rd_T62, rd_T66, rdOf] at h); (try simp only [rd_T59, rd_T62, rd_T66, rdOf] at H); (rw [bne_f (Decidable.not_not.1 h)] at H)) | ((try simp only [rd_T59, rd_T62, rd_T66, rdOf] at h); (try simp only [rd_T59, rd_T62, rd_T66, rdOf] at H); (rw [if_pos h] at H)) | ((try simp only [rd_T59, rd_T62, rd_T66, rdOf] at h); (try simp only [rd_T59, rd_T62, rd_T66, rdOf] at H); (rw [if_neg h] at H)) | contradiction | skip)))
    | ((with_reducible apply ROps.val); (case hop => exact valX); (case hw => rfl); (case hdst => rfl); (case hd => rfl))
    | ((with_reducible apply ROps.idx); (case hop => rfl); (case hx => rfl); (case hi => rfl); (case he => rfl); (case hw => rfl); (case hdst => rfl); (case hd => rfl); (case h0 => first | assumption | omega); (case h1 => first | assumption | omega))
    | ((with_reducible apply ROps.alloc); (case hop => rfl); (all_goals try rfl))
    | ((with_reducible apply ROps.box); (case hop => rfl); (case hx => rfl); (case hrf => rfl); (all_goals try rfl))
    | ((with_reducible apply ROps.off); (case hw => rfl); (case hdst => rfl); (case hd => rfl))
    | ((with_reducible have hB : (conf_has.f _ _ _).bind _ = some _ := H); clear hB; (replace H := bind_some' H); (obtain ⟨t_, H1, H⟩ := H); (try dsimp only at H); (with_reducible apply ROps.call); (case hop => rfl); (case hc => exact conf_has.ok H1); (case ha => exact argsX); (case hw => rfl); (case hdst => rfl); (case hd => rfl))
    | ((with_reducible have hB : (addr_Has.f _ _ _).bind _ = some _ := H); clear hB; (replace H := bind_some' H); (obtain ⟨t_, H1, H⟩ := H); (try dsimp only at H); (with_reducible apply ROps.call); (case hop => rfl); (case hc => exact addr_Has.ok H1); (case ha => exact argsX); (case hw => rfl); (case hdst => rfl); (case hd => rfl))
    | ((with_reducible have hB : (conf_spots.f _ _ _ _).bind _ = some _ := H); clear hB; (replace H := bind_some' H); (obtain ⟨t_, H1, H⟩ := H); (try dsimp only at H); (with_reducible apply ROps.call); (case hop => rfl); (case hc => exact conf_spots.ok H1); (case ha => exact argsX); (case hw => rfl); (case hdst => rfl); (case hd => rfl))
    | ((with_reducible have hB : (conf_inside.f _ _ _ _ _ _ _ _).bind _ = some _ := H); clear hB; (replace H := bind_some' H); (obtain ⟨t_, H1, H⟩ := H); (try dsimp only at H); (with_reducible apply ROps.call); (case hop => rfl); (case hc => exact conf_inside.ok H1); (case ha => exact argsX); (case hw => rfl); (case hdst => rfl); (case hd => rfl))
    | ((with_reducible apply Runs.loopK1 ((fun i0 i1 i2 i3 i4 => fun kk (v0_12 : Int) => conf_placed.l0 kk i0 i1 v0_12 i2 i3 i4) _ _ _ _ _) [1, 10, 11] [] (fun b v0_12 => [(12, .imm (.int .i64 v0_12))]) (fun v0_12 => []) _ _ [] H); (case h0 => intros; rfl); (any_goals (clear H; intro k0 hk0 ih0 v0_12 H; replace H : conf_placed.l0 (k0 + 1) _ _ v0_12 _ _ _ = some _ := H; rw [conf_placed.l0] at H)))
    | (with_reducible apply ih0 _ _ [] _ _ (by omega) H)
    | ((with_reducible apply Runs.loopK1 ((fun i0 i1 i2 i3 i4 i5 i6 i7 i8 i9 i10 i11 i12 i13 i14 i15 i16 => fun kk (v1_20 : Int) => conf_placed.l1 kk i0 i1 i2 i3 i4 v1_20 i5 i6 i7 i8 i9 i10 i11 i12 i13 i14 i15 i16) _ _ _ _ _ _ _ _ _ _ _ _ _ _ _ _ _) [1, 4, 10, 11, 12, 18, 19] [] (fun b v1_20 => [(20, .imm (.int .i64 v1_20))]) (fun v1_20 => []) _ _ [] H); (case h0 => intros; rfl); (any_goals (clear H; intro k1 hk1 ih1 v1_20 H; replace H : conf_placed.l1 (k1 + 1) _ _ _ _ _ v1_20 _ _ _ _ _ _ _ _ _ _ _ _ = some _ := H; rw [conf_placed.l1] at H)))
    | (with_reducible apply ih1 _ _ [] _ _ (by omega) H)
    | ((with_reducible apply Runs.loopK1 ((fun i0 i1 i2 i3 i4 i5 i6 i7 i8 i9 i10 i11 i12 i13 i14 i15 i16 => fun kk (v2_49 : Int) => conf_placed.l2 kk i0 i1 i2 i3 i4 v2_49 i5 i6 i7 i8 i9 i10 i11 i12 i13 i14 i15 i16) _ _ _ _ _ _ _ _ _ _ _ _ _ _ _ _ _) [1, 4, 10, 11, 12, 47, 48] [] (fun b v2_49 => [(49, .imm (.int .i64 v2_49))]) (fun v2_49 => []) _ _ [] H); (case h0 => intros; rfl); (any_goals (clear H; intro k2 hk2 ih2 v2_49 H; replace H : conf_placed.l2 (k2 + 1) _ _ _ _ _ v2_49 _ _ _ _ _ _ _ _ _ _ _ _ = some _ := H; rw [conf_placed.l2] at H)))
    | (with_reducible apply ih2 _ _ [] _ _ (by omega) H)
    | ((with_reducible apply Runs.retP tysOK); (case hrs => rfl); (case h => rfl); (case hr => (cases H; exact refX)); (case hx => rfl))
    | exact leRX)
end Go.Proofs.Ytdcabfonjmeajaa.PAlloc
set_option linter.unusedVariables false
set_option linter.unusedSimpArgs false
namespace Go.Proofs.Ytdcabfonjmeajaa.PAlloc
open Go.RowKit Go.Proofs.YtdcabfonjmeajaaW.PrintWords Go.Proofs.YtdcabfonjmeajaaW.PrintLast Go.Proofs.YtdcabfonjmeajaaW.PrintMore Go.Proofs.Ytdcabfonjmeajaa.Abs
/-! ### addr_Meet: function 86 -/
def addr_Meet.f (a0 : Int) (a1 : Int) (a2 : Int) (a3 : Int) : Option (Bool) := (addr_Fair.f a0 a1).bind fun t169 => (if t169 = true then ((addr_Fair.f a2 a3).bind fun t170 => (if t170 = true then ((addr_Has.f a0 a1 a2).bind fun t171 => (if t171 = true then (some true) else ((addr_Has.f a2 a3 a0).bind fun t172 => (some t172)))) else (some false))) else (some false))
noncomputable def addr_Meet.cx : Cx := ⟨Try.prog, tys, glo, 29, Try.f86, [.tmp 8]⟩
set_option maxHeartbeats 16000000 in
set_option maxRecDepth 100000 in
theorem addr_Meet.ok {a0 : Int} {a1 : Int} {a2 : Int} {a3 : Int} {r0 : Bool} (H : addr_Meet.f a0 a1 a2 a3 = some r0) : CallOK Try.prog glo 86 [.imm (.int .i64 a0), .imm (.int .i64 a1), .imm (.int .i64 a2), .imm (.int .i64 a3)] (.imm (.bool r0)) := by
  unfold addr_Meet.f at H
  refine CallOK.of (c := addr_Meet.cx) Try.func86 (show (addr_Meet.cx).fn.body = some _ from rfl) rfl rfl (Nat.le_of_ble_eq_true rfl) ?_
  repeat' (first
    | ((with_reducible replace H := some_ite H); obtain ⟨_, H⟩ := H)
    | (with_reducible replace H := some_bind_ H)
    | (with_reducible replace H := true_ite H)
    | (with_reducible replace H := false_ite H)
    | ((with_reducible have hb := bool_ite H); clear H; rcases hb with ⟨e_, H⟩ | ⟨e_, H⟩ <;> subst e_)
    | ((with_reducible apply ROps.pure); (case hop => rfl); (case hw => rfl); (case hdst => rfl); (case hd => rfl))
    | (with_reducible apply ROps.nil)
    | (with_reducible apply Runs.seq)
    | (with_reducible apply Runs.region tysOK)
    | (with_reducible apply Runs.scope)
    | (with_reducible apply Runs.inScope)
    | (with_reducible apply Runs.label)
    | ((with_reducible apply ROps.off); (case hw => rfl); (case hdst => rfl); (case hd => rfl))
    | ((with_reducible have hB : (addr_Has.f _ _ _).bind _ = some _ := H); clear hB; (replace H := bind_some' H); (obtain ⟨t_, H1, H⟩ := H); (try dsimp only at H); (with_reducible apply ROps.call); (case hop => rfl); (case hc => exact addr_Has.ok H1); (case ha => exact argsX); (case hw => rfl); (case hdst => rfl); (case hd => rfl))
    | ((with_reducible have hB : (addr_Fair.f _ _).bind _ = some _ := H); clear hB; (replace H := bind_some' H); (obtain ⟨t_, H1, H⟩ := H); (try dsimp only at H); (with_reducible apply ROps.call); (case hop => rfl); (case hc => exact addr_Fair.ok H1); (case ha => exact argsX); (case hw => rfl); (case hdst => rfl); (case hd => rfl))
    | ((with_reducible apply Runs.retP tysOK); (case hrs => rfl); (case h => rfl); (case hr => (cases H; exact refX)); (case hx => rfl))
    | exact leRX)
end Go.Proofs.Ytdcabfonjmeajaa.PAlloc
set_option linter.unusedVariables false
set_option linter.unusedSimpArgs false
namespace Go.Proofs.Ytdcabfonjmeajaa.PAlloc
open Go.RowKit Go.Proofs.YtdcabfonjmeajaaW.PrintWords Go.Proofs.YtdcabfonjmeajaaW.PrintLast Go.Proofs.YtdcabfonjmeajaaW.PrintMore Go.Proofs.Ytdcabfonjmeajaa.Abs
/-! ### conf_once: function 69 -/
mutual
def conf_once.j0 : Nat → Bool → Bool → Int → Int → Int → Int → List (S62) → List (S59) → Int → Int → Int → Int → Int → Int → Int → List (S62) → List (S59) → Int → Int → Int → Option (Bool)
  | 0, _, _, _, _, _, _, _, _, _, _, _, _, _, _, _, _, _, _, _, _ => none
  | k + 1, x2, x53, x174000, x174001, x174002, x174003, x174004, x174005, x174006, x174007, x174008, x175000, x175001, x175002, x175003, x175004, x175005, x175006, x175007, x175008 => if x53 = true then (some false) else (conf_once.l0 k x2 x174004 (x174004.length : Int) 0 x174000 x174001 x174002 x174003 x174004 x174005 x174006 x174007 x174008 x175000 x175001 x175002 x175003 x175004 x175005 x175006 x175007 x175008)
def conf_once.l0 : Nat → Bool → List (S62) → Int → Int → Int → Int → Int → Int → List (S62) → List (S59) → Int → Int → Int → Int → Int → Int → Int → List (S62) → List (S59) → Int → Int → Int → Option (Bool)
  | 0, _, _, _, _, _, _, _, _, _, _, _, _, _, _, _, _, _, _, _, _, _, _ => none
  | k + 1, x2, x56, x57, x58, x174000, x174001, x174002, x174003, x174004, x174005, x174006, x174007, x174008, x175000, x175001, x175002, x175003, x175004, x175005, x175006, x175007, x175008 => if x58 < x57 then (if 0 ≤ x58 then (if x58 < (x56.length : Int) then (conf_once.l1 k x2 x58 x56 x57 x58 x175004 (x175004.length : Int) 0 x174000 x174001 x174002 x174003 x174004 x174005 x174006 x174007 x174008 x175000 x175001 x175002 x175003 x175004 x175005 x175006 x175007 x175008 ((rd_T62 x56 x58).f0) ((rd_T62 x56 x58).f1)) else (none)) else (none)) else (conf_once.l2 k x2 x174005 (x174005.length : Int) 0 x174000 x174001 x174002 x174003 x174004 x174005 x174006 x174007 x174008 x175000 x175001 x175002 x175003 x175004 x175005 x175006 x175007 x175008)
def conf_once.l1 : Nat → Bool → Int → List (S62) → Int → Int → List (S62) → Int → Int → Int → Int → Int → Int → List (S62) → List (S59) → Int → Int → Int → Int → Int → Int → Int → List (S62) → List (S59) → Int → Int → Int → Int → Int → Option (Bool)
  | 0, _, _, _, _, _, _, _, _, _, _, _, _, _, _, _, _, _, _, _, _, _, _, _, _, _, _, _, _ => none
  | k + 1, x2, x7, x56, x57, x58, x65, x66, x67, x174000, x174001, x174002, x174003, x174004, x174005, x174006, x174007, x174008, x175000, x175001, x175002, x175003, x175004, x175005, x175006, x175007, x175008, x178000, x178001 => if x67 < x66 then (if 0 ≤ x67 then (if x67 < (x65.length : Int) then (if x2 = true then (if x7 = x67 then (conf_once.l1 k x2 x7 x56 x57 x58 x65 x66 (wrap64 (x67 + 1)) x174000 x174001 x174002 x174003 x174004 x174005 x174006 x174007 x174008 x175000 x175001 x175002 x175003 x175004 x175005 x175006 x175007 x175008 x178000 x178001) else ((conf_has.f x178000 x178001 ((rd_T62 x65 x67).f0)).bind fun t180 => (if t180 = true then (some false) else ((conf_has.f ((rd_T62 x65 x67).f0) ((rd_T62 x65 x67).f1) x178000).bind fun t181 => (if t181 = true then (some false) else (conf_once.l1 k x2 x7 x56 x57 x58 x65 x66 (wrap64 (x67 + 1)) x174000 x174001 x174002 x174003 x174004 x174005 x174006 x174007 x174008 x175000 x175001 x175002 x175003 x175004 x175005 x175006 x175007 x175008 x178000 x178001)))))) else (conf_once.l1 k x2 x7 x56 x57 x58 x65 x66 (wrap64 (x67 + 1)) x174000 x174001 x174002 x174003 x174004 x174005 x174006 x174007 x174008 x175000 x175001 x175002 x175003 x175004 x175005 x175006 x175007 x175008 x178000 x178001)) else (none)) else (none)) else (conf_once.l0 k x2 x56 x57 (wrap64 (x58 + 1)) x174000 x174001 x174002 x174003 x174004 x174005 x174006 x174007 x174008 x175000 x175001 x175002 x175003 x175004 x175005 x175006 x175007 x175008)
def conf_once.l2 : Nat → Bool → List (S59) → Int → Int → Int → Int → Int → Int → List (S62) → List (S59) → Int → Int → Int → Int → Int → Int → Int → List (S62) → List (S59) → Int → Int → Int → Option (Bool)
  | 0, _, _, _, _, _, _, _, _, _, _, _, _, _, _, _, _, _, _, _, _, _, _ => none
  | k + 1, x2, x94, x95, x96, x174000, x174001, x174002, x174003, x174004, x174005, x174006, x174007, x174008, x175000, x175001, x175002, x175003, x175004, x175005, x175006, x175007, x175008 => if x96 < x95 then (if 0 ≤ x96 then (if x96 < (x94.length : Int) then (conf_once.l3 k x2 x96 x94 x95 x96 x175005 (x175005.length : Int) 0 x174000 x174001 x174002 x174003 x174004 x174005 x174006 x174007 x174008 x175000 x175001 x175002 x175003 x175004 x175005 x175006 x175007 x175008 ((rd_T59 x94 x96).f0) ((rd_T59 x94 x96).f1)) else (none)) else (none)) else (some true)
def conf_once.l3 : Nat → Bool → Int → List (S59) → Int → Int → List (S59) → Int → Int → Int → Int → Int → Int → List (S62) → List (S59) → Int → Int → Int → Int → Int → Int → Int → List (S62) → List (S59) → Int → Int → Int → ByteArray → Int → Option (Bool)
  | 0, _, _, _, _, _, _, _, _, _, _, _, _, _, _, _, _, _, _, _, _, _, _, _, _, _, _, _, _ => none
  | k + 1, x2, x11, x94, x95, x96, x103, x104, x105, x174000, x174001, x174002, x174003, x174004, x174005, x174006, x174007, x174008, x175000, x175001, x175002, x175003, x175004, x175005, x175006, x175007, x175008, x184000, x184001 => if x105 < x104 then (if 0 ≤ x105 then (if x105 < (x103.length : Int) then (if x2 = true then (if x11 = x105 then (conf_once.l3 k x2 x11 x94 x95 x96 x103 x104 (wrap64 (x105 + 1)) x174000 x174001 x174002 x174003 x174004 x174005 x174006 x174007 x174008 x175000 x175001 x175002 x175003 x175004 x175005 x175006 x175007 x175008 x184000 x184001) else (if x184001 = ((rd_T59 x103 x105).f1) then (some false) else (if x174000 = x175000 then (if x184000.toList = ((rd_T59 x103 x105).f0).toList then (some false) else (conf_once.l3 k x2 x11 x94 x95 x96 x103 x104 (wrap64 (x105 + 1)) x174000 x174001 x174002 x174003 x174004 x174005 x174006 x174007 x174008 x175000 x175001 x175002 x175003 x175004 x175005 x175006 x175007 x175008 x184000 x184001)) else (conf_once.l3 k x2 x11 x94 x95 x96 x103 x104 (wrap64 (x105 + 1)) x174000 x174001 x174002 x174003 x174004 x174005 x174006 x174007 x174008 x175000 x175001 x175002 x175003 x175004 x175005 x175006 x175007 x175008 x184000 x184001)))) else (if x184001 = ((rd_T59 x103 x105).f1) then (some false) else (if x174000 = x175000 then (if x184000.toList = ((rd_T59 x103 x105).f0).toList then (some false) else (conf_once.l3 k x2 x11 x94 x95 x96 x103 x104 (wrap64 (x105 + 1)) x174000 x174001 x174002 x174003 x174004 x174005 x174006 x174007 x174008 x175000 x175001 x175002 x175003 x175004 x175005 x175006 x175007 x175008 x184000 x184001)) else (conf_once.l3 k x2 x11 x94 x95 x96 x103 x104 (wrap64 (x105 + 1)) x174000 x174001 x174002 x174003 x174004 x174005 x174006 x174007 x174008 x175000 x175001 x175002 x175003 x175004 x175005 x175006 x175007 x175008 x184000 x184001)))) else (none)) else (none)) else (conf_once.l2 k x2 x94 x95 (wrap64 (x96 + 1)) x174000 x174001 x174002 x174003 x174004 x174005 x174006 x174007 x174008 x175000 x175001 x175002 x175003 x175004 x175005 x175006 x175007 x175008)
end
def conf_once.f (k : Nat) (a0_0 : Int) (a0_1 : Int) (a0_2 : Int) (a0_3 : Int) (l0_4 : List (S62)) (l0_5 : List (S59)) (a0_6 : Int) (a0_7 : Int) (a0_8 : Int) (a1_0 : Int) (a1_1 : Int) (a1_2 : Int) (a1_3 : Int) (l1_4 : List (S62)) (l1_5 : List (S59)) (a1_6 : Int) (a1_7 : Int) (a1_8 : Int) (a2 : Bool) : Option (Bool) := if a2 = true then (conf_once.j0 k a2 false a0_0 a0_1 a0_2 a0_3 l0_4 l0_5 a0_6 a0_7 a0_8 a1_0 a1_1 a1_2 a1_3 l1_4 l1_5 a1_6 a1_7 a1_8) else ((addr_Meet.f a0_2 a0_3 a1_2 a1_3).bind fun t175 => (if t175 = true then (conf_once.j0 k a2 true a0_0 a0_1 a0_2 a0_3 l0_4 l0_5 a0_6 a0_7 a0_8 a1_0 a1_1 a1_2 a1_3 l1_4 l1_5 a1_6 a1_7 a1_8) else (if a0_0 = a1_0 then (conf_once.j0 k a2 false a0_0 a0_1 a0_2 a0_3 l0_4 l0_5 a0_6 a0_7 a0_8 a1_0 a1_1 a1_2 a1_3 l1_4 l1_5 a1_6 a1_7 a1_8) else (if a0_6 = a1_6 then (conf_once.j0 k a2 (decide (a0_6 > 0)) a0_0 a0_1 a0_2 a0_3 l0_4 l0_5 a0_6 a0_7 a0_8 a1_0 a1_1 a1_2 a1_3 l1_4 l1_5 a1_6 a1_7 a1_8) else (conf_once.j0 k a2 false a0_0 a0_1 a0_2 a0_3 l0_4 l0_5 a0_6 a0_7 a0_8 a1_0 a1_1 a1_2 a1_3 l1_4 l1_5 a1_6 a1_7 a1_8)))))
noncomputable def conf_once.cx : Cx := ⟨Try.prog, tys, glo, 140, Try.f69, [.tmp 6]⟩
set_option maxHeartbeats 16000000 in
set_option maxRecDepth 100000 in
theorem conf_once.ok {k : Nat} {a0_0 : Int} {a0_1 : Int} {a0_2 : Int} {a0_3 : Int} {l0_4 : List (S62)} {l0_5 : List (S59)} {a0_6 : Int} {a0_7 : Int} {a0_8 : Int} {a1_0 : Int} {a1_1 : Int} {a1_2 : Int} {a1_3 : Int} {l1_4 : List (S62)} {l1_5 : List (S59)} {a1_6 : Int} {a1_7 : Int} {a1_8 : Int} {a2 : Bool} {r0 : Bool} (H : conf_once.f k a0_0 a0_1 a0_2 a0_3 l0_4 l0_5 a0_6 a0_7 a0_8 a1_0 a1_1 a1_2 a1_3 l1_4 l1_5 a1_6 a1_7 a1_8 a2 = some r0) : CallOK Try.prog glo 69 [.agg [.imm (.int .i64 a0_0), .imm (.int .i64 a0_1), .imm (.int .i64 a0_2), .imm (.int .i64 a0_3), vS62 l0_4, vS59 l0_5, .imm (.int .i64 a0_6), .imm (.int .i64 a0_7), .imm (.int .i64 a0_8)], .agg [.imm (.int .i64 a1_0), .imm (.int .i64 a1_1), .imm (.int .i64 a1_2), .imm (.int .i64 a1_3), vS62 l1_4, vS59 l1_5, .imm (.int .i64 a1_6), .imm (.int .i64 a1_7), .imm (.int .i64 a1_8)], .imm (.bool a2)] (.imm (.bool r0)) := by
  unfold conf_once.f at H
  refine CallOK.of (c := conf_once.cx) Try.func69 (show (conf_once.cx).fn.body = some _ from rfl) rfl rfl (Nat.le_of_ble_eq_true rfl) ?_
  repeat' (first
    | ((with_reducible have hJ : conf_once.j0 k _ _ _ _ _ _ _ _ _ _ _ _ _ _ _ _ _ _ _ _ = some _ := H); clear hJ; (rcases k with _ | k); (rw [conf_once.j0] at H; cases H); (rw [conf_once.j0] at H))
    | ((with_reducible have hJ : conf_once.j0 k0 _ _ _ _ _ _ _ _ _ _ _ _ _ _ _ _ _ _ _ _ = some _ := H); clear hJ; (rcases k0 with _ | k0); (rw [conf_once.j0] at H; cases H); (rw [conf_once.j0] at H))
    | ((with_reducible have hJ : conf_once.j0 k1 _ _ _ _ _ _ _ _ _ _ _ _ _ _ _ _ _ _ _ _ = some _ := H); clear hJ; (rcases k1 with _ | k1); (rw [conf_once.j0] at H; cases H); (rw [conf_once.j0] at H))
    | ((with_reducible have hJ : conf_once.j0 k2 _ _ _ _ _ _ _ _ _ _ _ _ _ _ _ _ _ _ _ _ = some _ := H); clear hJ; (rcases k2 with _ | k2); (rw [conf_once.j0] at H; cases H); (rw [conf_once.j0] at H))
    | ((with_reducible have hJ : conf_once.j0 k3 _ _ _ _ _ _ _ _ _ _ _ _ _ _ _ _ _ _ _ _ = some _ := H); clear hJ; (rcases k3 with _ | k3); (rw [conf_once.j0] at H; cases H); (rw [conf_once.j0] at H))
    | ((with_reducible replace H := some_ite H); obtain ⟨_, H⟩ := H)
    | (with_reducible replace H := some_bind_ H)
    | (with_reducible replace H := true_ite H)
    | (with_reducible replace H := false_ite H)
    | ((with_reducible have hb := bool_ite H); clear H; rcases hb with ⟨e_, H⟩ | ⟨e_, H⟩ <;> subst e_)
    | ((with_reducible apply ROps.pure); (case hop => rfl); (case hw => rfl); (case hdst => rfl); (case hd => rfl))
    | (with_reducible apply ROps.nil)
    | (with_reducible apply Runs.seq)
    | (with_reducible apply Runs.region tysOK)
    | (with_reducible apply Runs.block)
    | (with_reducible apply Runs.skip)
    | (with_reducible apply Runs.inBlock)
    | (with_reducible apply Runs.scope)
    | (with_reducible apply Runs.inScope)
    | (with_reducible apply Runs.label)
    | ((with_reducible apply Runs.condT); (case ho => rfl))
    | ((with_reducible apply Runs.condF); (case ho => rfl))
    | ((with_reducible apply Runs.exit); (case he => rfl))
    | ((with_reducible apply ROps.store); (case hop => rfl); (all_goals try rfl))
    | ((with_reducible apply ROps.cmp); (case hop => exact cmpX); (case hw => rfl); (case hdst => rfl); (case hd => rfl); (all_goals (intro h; first | (replace H := ite_pos_ h H) | (replace H := ite_neg_ h H) | (replace H := dec_pos h H) | (replace H := dec_neg h H) | (replace H := dec_t h H) | (replace H := dec_f h H) | (replace H := beq_pos h H) | (replace H := beq_neg h H) | (replace H := beq_tt h H) | (replace H := beq_ff h H) | (replace H := ite_pos_ (Decidable.not_not.1 h) H) | (replace H := beq_pos (Decidable.not_not.1 h) H) | (replace H := beq_tt (Decidable.not_not.1 h) H) | ((try simp only [rd_T59, rd_T62, rdOf] at h); (try simp only [rd_T59, rd_T62, rdOf] at H); (rw [decide_eq_true h] at H)) | ((try simp only [rd_T59, rd_T62, rdOf] at h); (try simp only [rd_T59, rd_T62, rdOf] at H); (rw [decide_eq_false h] at H)) | ((try simp only [rd_T59, rd_T62, rdOf] at h); (try simp only [rd_T59, rd_T62, rdOf] at H); (rw [beq_t h] at H)) | ((try simp only [rd_T59, rd_T62, rdOf] at h); (try simp only [rd_T59, rd_T62, rdOf] at H); (rw [beq_f h] at H)) | ((try simp only [rd_T59, rd_T62, rdOf] at h); (try simp only [rd_T59, rd_T62, rdOf] at H); (rw [bne_t h] at H)) | ((try simp only [rd_T59, rd_T62, rdOf] at h); (try simp only [rd_T59, rd_T62, rdOf] at H); (rw [bne_f h] at H)) | ((try simp only [rd_T59, rd_T62, rdOf] at h); (try simp only [rd_T59, rd_T62, rdOf] at H); (rw [beq_t (Decidable.not_not.1 h)] at H)) | ((try simp only [rd_T59, rd_T62, rdOf] at h); (try simp only [rd_T59, rd_T62, rdOf] at H); (rw [bne_f (Decidable.not_not.1 h)] at H)) | ((try simp only [rd_T59, rd_T62, rdOf] at h); (try simp only [rd_T59, rd_T62, rdOf] at H); (rw [if_pos h] at H)) | ((try simp only [rd_T59, rd_T62, rdOf] at h); (try simp only [rd_T59, rd_T62, rdOf] at H); (rw [if_neg h] at H)) | contradiction | skip)))
    | ((with_reducible apply ROps.val); (case hop => exact valX); (case hw => rfl); (case hdst => rfl); (case hd => rfl))
    | ((with_reducible apply ROps.idx); (case hop => rfl); (case hx => rfl); (case hi => rfl); (case he => rfl); (case hw => rfl); (case hdst => rfl); (case hd => rfl); (case h0 => first | assumption | omega); (case h1 => first | assumption | omega))
    | ((with_reducible apply ROps.alloc); (case hop => rfl); (all_goals try rfl))
    | ((with_reducible apply ROps.box); (case hop => rfl); (case hx => rfl); (case hrf => rfl); (all_goals try rfl))
    | ((with_reducible apply ROps.off); (case hw => rfl); (case hdst => rfl); (case hd => rfl))
    | ((with_reducible have hB : (conf_has.f _ _ _).bind _ = some _ := H); clear hB; (replace H := bind_some' H); (obtain ⟨t_, H1, H⟩ := H); (try dsimp only at H); (with_reducible apply ROps.call); (case hop => rfl); (case hc => exact conf_has.ok H1); (case ha => exact argsX); (case hw => rfl); (case hdst => rfl); (case hd => rfl))
    | ((with_reducible have hB : (addr_Meet.f _ _ _ _).bind _ = some _ := H); clear hB; (replace H := bind_some' H); (obtain ⟨t_, H1, H⟩ := H); (try dsimp only at H); (with_reducible apply ROps.call); (case hop => rfl); (case hc => exact addr_Meet.ok H1); (case ha => exact argsX); (case hw => rfl); (case hdst => rfl); (case hd => rfl))
    | ((with_reducible apply Runs.loopK1 ((fun i0 i1 i2 i3 i4 i5 i6 i7 i8 i9 i10 i11 i12 i13 i14 i15 i16 i17 i18 i19 i20 => fun kk (v0_58 : Int) => conf_once.l0 kk i0 i1 i2 v0_58 i3 i4 i5 i6 i7 i8 i9 i10 i11 i12 i13 i14 i15 i16 i17 i18 i19 i20) _ _ _ _ _ _ _ _ _ _ _ _ _ _ _ _ _ _ _ _ _) [2, 3, 4, 56, 57] [] (fun b v0_58 => [(58, .imm (.int .i64 v0_58))]) (fun v0_58 => []) _ _ [] H); (case h0 => intros; rfl); (any_goals (clear H; intro k0 hk0 ih0 v0_58 H; replace H : conf_once.l0 (k0 + 1) _ _ _ v0_58 _ _ _ _ _ _ _ _ _ _ _ _ _ _ _ _ _ _ = some _ := H; rw [conf_once.l0] at H)))
    | (with_reducible apply ih0 _ _ [] _ _ (by omega) H)
    | ((with_reducible apply Runs.loopK1 ((fun i0 i1 i2 i3 i4 i5 i6 i7 i8 i9 i10 i11 i12 i13 i14 i15 i16 i17 i18 i19 i20 i21 i22 i23 i24 i25 i26 => fun kk (v1_67 : Int) => conf_once.l1 kk i0 i1 i2 i3 i4 i5 i6 v1_67 i7 i8 i9 i10 i11 i12 i13 i14 i15 i16 i17 i18 i19 i20 i21 i22 i23 i24 i25 i26) _ _ _ _ _ _ _ _ _ _ _ _ _ _ _ _ _ _ _ _ _ _ _ _ _ _ _) [2, 3, 4, 7, 8, 56, 57, 58, 65, 66] [] (fun b v1_67 => [(67, .imm (.int .i64 v1_67))]) (fun v1_67 => []) _ _ [] H); (case h0 => intros; rfl); (any_goals (clear H; intro k1 hk1 ih1 v1_67 H; replace H : conf_once.l1 (k1 + 1) _ _ _ _ _ _ _ v1_67 _ _ _ _ _ _ _ _ _ _ _ _ _ _ _ _ _ _ _ _ = some _ := H; rw [conf_once.l1] at H)))
    | (with_reducible apply ih1 _ _ [] _ _ (by omega) H)
    | ((with_reducible apply Runs.loopK1 ((fun i0 i1 i2 i3 i4 i5 i6 i7 i8 i9 i10 i11 i12 i13 i14 i15 i16 i17 i18 i19 i20 => fun kk (v2_96 : Int) => conf_once.l2 kk i0 i1 i2 v2_96 i3 i4 i5 i6 i7 i8 i9 i10 i11 i12 i13 i14 i15 i16 i17 i18 i19 i20) _ _ _ _ _ _ _ _ _ _ _ _ _ _ _ _ _ _ _ _ _) [2, 3, 4, 94, 95] [] (fun b v2_96 => [(96, .imm (.int .i64 v2_96))]) (fun v2_96 => []) _ _ [] H); (case h0 => intros; rfl); (any_goals (clear H; intro k2 hk2 ih2 v2_96 H; replace H : conf_once.l2 (k2 + 1) _ _ _ v2_96 _ _ _ _ _ _ _ _ _ _ _ _ _ _ _ _ _ _ = some _ := H; rw [conf_once.l2] at H)))
    | (with_reducible apply ih2 _ _ [] _ _ (by omega) H)
    | ((with_reducible apply Runs.loopK1 ((fun i0 i1 i2 i3 i4 i5 i6 i7 i8 i9 i10 i11 i12 i13 i14 i15 i16 i17 i18 i19 i20 i21 i22 i23 i24 i25 i26 => fun kk (v3_105 : Int) => conf_once.l3 kk i0 i1 i2 i3 i4 i5 i6 v3_105 i7 i8 i9 i10 i11 i12 i13 i14 i15 i16 i17 i18 i19 i20 i21 i22 i23 i24 i25 i26) _ _ _ _ _ _ _ _ _ _ _ _ _ _ _ _ _ _ _ _ _ _ _ _ _ _ _) [2, 3, 4, 11, 12, 94, 95, 96, 103, 104] [] (fun b v3_105 => [(105, .imm (.int .i64 v3_105))]) (fun v3_105 => []) _ _ [] H); (case h0 => intros; rfl); (any_goals (clear H; intro k3 hk3 ih3 v3_105 H; replace H : conf_once.l3 (k3 + 1) _ _ _ _ _ _ _ v3_105 _ _ _ _ _ _ _ _ _ _ _ _ _ _ _ _ _ _ _ _ = some _ := H; rw [conf_once.l3] at H)))
    | (with_reducible apply ih3 _ _ [] _ _ (by omega) H)
    | ((with_reducible apply Runs.retP tysOK); (case hrs => rfl); (case h => rfl); (case hr => (cases H; exact refX)); (case hx => rfl))
    | exact leRX)
end Go.Proofs.Ytdcabfonjmeajaa.PAlloc
set_option linter.unusedVariables false
set_option linter.unusedSimpArgs false
namespace Go.Proofs.Ytdcabfonjmeajaa.PAlloc
open Go.RowKit Go.Proofs.YtdcabfonjmeajaaW.PrintWords Go.Proofs.YtdcabfonjmeajaaW.PrintLast Go.Proofs.YtdcabfonjmeajaaW.PrintMore Go.Proofs.Ytdcabfonjmeajaa.Abs
/-! ### conf_unlike: function 42 -/
mutual
def conf_unlike.l0 : Nat → List (S66) → List (S66) → Int → Int → Option (Bool)
  | 0, _, _, _, _ => none
  | k + 1, x3, x10, x11, x12 => if x12 < x11 then (if 0 ≤ x12 then (if x12 < (x10.length : Int) then (conf_unlike.l1 k x3 x12 x10 x11 x12 x3 (x3.length : Int) 0 ((rd_T66 x10 x12).f0) ((rd_T66 x10 x12).f1) ((rd_T66 x10 x12).f2.f0) ((rd_T66 x10 x12).f2.f1) ((rd_T66 x10 x12).f2.f2) ((rd_T66 x10 x12).f2.f3) ((rd_T66 x10 x12).f2.f4) ((rd_T66 x10 x12).f2.f5) ((rd_T66 x10 x12).f2.f6)) else (none)) else (none)) else (some true)
def conf_unlike.l1 : Nat → List (S66) → Int → List (S66) → Int → Int → List (S66) → Int → Int → Int → Int → Int → Int → List (S62) → List (S59) → Int → Int → Int → Option (Bool)
  | 0, _, _, _, _, _, _, _, _, _, _, _, _, _, _, _, _, _ => none
  | k + 1, x3, x4, x10, x11, x12, x17, x18, x19, x192000, x192001, x192002, x192003, x192004, x192005, x192006, x192007, x192008 => if x19 < x18 then (if 0 ≤ x19 then (if x19 < (x17.length : Int) then ((conf_once.f k x192000 x192001 x192002 x192003 x192004 x192005 x192006 x192007 x192008 ((rd_T66 x17 x19).f0) ((rd_T66 x17 x19).f1) ((rd_T66 x17 x19).f2.f0) ((rd_T66 x17 x19).f2.f1) ((rd_T66 x17 x19).f2.f2) ((rd_T66 x17 x19).f2.f3) ((rd_T66 x17 x19).f2.f4) ((rd_T66 x17 x19).f2.f5) ((rd_T66 x17 x19).f2.f6) (x4 == x19)).bind fun t194 => (if t194 = true then (conf_unlike.l1 k x3 x4 x10 x11 x12 x17 x18 (wrap64 (x19 + 1)) x192000 x192001 x192002 x192003 x192004 x192005 x192006 x192007 x192008) else (some false))) else (none)) else (none)) else (conf_unlike.l0 k x3 x10 x11 (wrap64 (x12 + 1)))
end
def conf_unlike.f (k : Nat) (a0_0 : Int) (a0_1 : Int) (l0_2 : List (S41)) : Option (Bool) := (conf_spots.f k a0_0 a0_1 l0_2).bind fun t187 => (conf_unlike.l0 k t187 t187 (t187.length : Int) 0)
noncomputable def conf_unlike.cx : Cx := ⟨Try.prog, tys, glo, 33, Try.f42, [.tmp 2]⟩
set_option maxHeartbeats 16000000 in
set_option maxRecDepth 100000 in
theorem conf_unlike.ok {k : Nat} {a0_0 : Int} {a0_1 : Int} {l0_2 : List (S41)} {r0 : Bool} (H : conf_unlike.f k a0_0 a0_1 l0_2 = some r0) : CallOK Try.prog glo 42 [.agg [.imm (.int .i64 a0_0), .imm (.int .i64 a0_1), vS41 l0_2]] (.imm (.bool r0)) := by
  unfold conf_unlike.f at H
  refine CallOK.of (c := conf_unlike.cx) Try.func42 (show (conf_unlike.cx).fn.body = some _ from rfl) rfl rfl (Nat.le_of_ble_eq_true rfl) ?_
  repeat' (first
    | ((with_reducible replace H := some_ite H); obtain ⟨_, H⟩ := H)
    | (with_reducible replace H := true_ite H)
    | (with_reducible replace H := false_ite H)
    | ((with_reducible have hb := bool_ite H); clear H; rcases hb with ⟨e_, H⟩ | ⟨e_, H⟩ <;> subst e_)
    | ((with_reducible apply ROps.pure); (case hop => rfl); (case hw => rfl); (case hdst => rfl); (case hd => rfl))
    | (with_reducible apply ROps.nil)
    | (with_reducible apply Runs.seq)
    | (with_reducible apply Runs.region tysOK)
    | (with_reducible apply Runs.block)
    | (with_reducible apply Runs.skip)
    | (with_reducible apply Runs.inBlock)
    | (with_reducible apply Runs.scope)
    | (with_reducible apply Runs.inScope)
    | (with_reducible apply Runs.label)
    | ((with_reducible apply Runs.condT); (case ho => rfl))
    | ((with_reducible apply Runs.condF); (case ho => rfl))
    | ((with_reducible apply Runs.exit); (case he => rfl))
    | ((with_reducible apply ROps.store); (case hop => rfl); (all_goals try rfl))
    | ((with_reducible apply ROps.cmp); (case hop => exact cmpX); (case hw => rfl); (case hdst => rfl); (case hd => rfl); (all_goals (intro h; first | (replace H := ite_pos_ h H) | (replace H := ite_neg_ h H) | (replace H := dec_pos h H) | (replace H := dec_neg h H) | (replace H := dec_t h H) | (replace H := dec_f h H) | (replace H := beq_pos h H) | (replace H := beq_neg h H) | (replace H := beq_tt h H) | (replace H := beq_ff h H) | (replace H := ite_pos_ (Decidable.not_not.1 h) H) | (replace H := beq_pos (Decidable.not_not.1 h) H) | (replace H := beq_tt (Decidable.not_not.1 h) H) | ((try simp only [rd_T66, rdOf] at h); (try simp only [rd_T66, rdOf] at H); (rw [decide_eq_true h] at H)) | ((try simp only [rd_T66, rdOf] at h); (try simp only [rd_T66, rdOf] at H); (rw [decide_eq_false h] at H)) | ((try simp only [rd_T66, rdOf] at h); (try simp only [rd_T66, rdOf] at H); (rw [beq_t h] at H)) | ((try simp only [rd_T66, rdOf] at h); (try simp only [rd_T66, rdOf] at H); (rw [beq_f h] at H)) | ((try simp only [rd_T66, rdOf] at h); (try simp only [rd_T66, rdOf] at H); (rw [beq_t (Decidable.not_not.1 h)] at H)) | ((try simp only [rd_T66, rdOf] at h); (try simp only [rd_T66, rdOf] at H); (rw [if_pos h] at H)) | ((try simp only [rd_T66, rdOf] at h); (try simp only [rd_T66, rdOf] at H); (rw [if_neg h] at H)) | contradiction | skip)))
    | ((with_reducible apply ROps.val); (case hop => exact valX); (case hw => rfl); (case hdst => rfl); (case hd => rfl))
    | ((with_reducible apply ROps.idx); (case hop => rfl); (case hx => rfl); (case hi => rfl); (case he => rfl); (case hw => rfl); (case hdst => rfl); (case hd => rfl); (case h0 => first | assumption | omega); (case h1 => first | assumption | omega))
    | ((with_reducible apply ROps.alloc); (case hop => rfl); (all_goals try rfl))
    | ((with_reducible apply ROps.box); (case hop => rfl); (case hx => rfl); (case hrf => rfl); (all_goals try rfl))
    | ((with_reducible have hB : (conf_spots.f _ _ _ _).bind _ = some _ := H); clear hB; (replace H := bind_some' H); (obtain ⟨t_, H1, H⟩ := H); (try dsimp only at H); (with_reducible apply ROps.call); (case hop => rfl); (case hc => exact conf_spots.ok H1); (case ha => exact argsX); (case hw => rfl); (case hdst => rfl); (case hd => rfl))
    | ((with_reducible have hB : (conf_once.f _ _ _ _ _ _ _ _ _ _ _ _ _ _ _ _ _ _ _ _).bind _ = some _ := H); clear hB; (replace H := bind_some' H); (obtain ⟨t_, H1, H⟩ := H); (try dsimp only at H); (with_reducible apply ROps.call); (case hop => rfl); (case hc => exact conf_once.ok H1); (case ha => exact argsX); (case hw => rfl); (case hdst => rfl); (case hd => rfl))
    | ((with_reducible apply Runs.loopK1 ((fun i0 i1 i2 => fun kk (v0_12 : Int) => conf_unlike.l0 kk i0 i1 i2 v0_12) _ _ _) [3, 10, 11] [] (fun b v0_12 => [(12, .imm (.int .i64 v0_12))]) (fun v0_12 => []) _ _ [] H); (case h0 => intros; rfl); (any_goals (clear H; intro k0 hk0 ih0 v0_12 H; replace H : conf_unlike.l0 (k0 + 1) _ _ _ v0_12 = some _ := H; rw [conf_unlike.l0] at H)))
    | (with_reducible apply ih0 _ _ [] _ _ (by omega) H)
    | ((with_reducible apply Runs.loopK1 ((fun i0 i1 i2 i3 i4 i5 i6 i7 i8 i9 i10 i11 i12 i13 i14 i15 => fun kk (v1_19 : Int) => conf_unlike.l1 kk i0 i1 i2 i3 i4 i5 i6 v1_19 i7 i8 i9 i10 i11 i12 i13 i14 i15) _ _ _ _ _ _ _ _ _ _ _ _ _ _ _ _) [3, 4, 5, 10, 11, 12, 17, 18] [] (fun b v1_19 => [(19, .imm (.int .i64 v1_19))]) (fun v1_19 => []) _ _ [] H); (case h0 => intros; rfl); (any_goals (clear H; intro k1 hk1 ih1 v1_19 H; replace H : conf_unlike.l1 (k1 + 1) _ _ _ _ _ _ _ v1_19 _ _ _ _ _ _ _ _ _ = some _ := H; rw [conf_unlike.l1] at H)))
    | (with_reducible apply ih1 _ _ [] _ _ (by omega) H)
    | ((with_reducible apply Runs.retP tysOK); (case hrs => rfl); (case h => rfl); (case hr => (cases H; exact refX)); (case hx => rfl))
    | exact leRX)
end Go.Proofs.Ytdcabfonjmeajaa.PAlloc
set_option linter.unusedVariables false
set_option linter.unusedSimpArgs false
namespace Go.Proofs.Ytdcabfonjmeajaa.PAlloc
open Go.RowKit Go.Proofs.YtdcabfonjmeajaaW.PrintWords Go.Proofs.YtdcabfonjmeajaaW.PrintLast Go.Proofs.YtdcabfonjmeajaaW.PrintMore Go.Proofs.Ytdcabfonjmeajaa.Abs
/-! ### conf_Check: function 16 -/
def conf_Check.f (k : Nat) (a0_0 : Int) (a0_1 : Int) (l0_2 : List (S41)) : Option (Int) := (conf_form.f k a0_0 a0_1 l0_2).bind fun t196 => (if t196 = true then ((conf_placed.f k a0_0 a0_1 l0_2).bind fun t197 => (if t197 = true then ((conf_unlike.f k a0_0 a0_1 l0_2).bind fun t198 => (if t198 = true then (some 0) else (some 8))) else (some 9))) else (some 1))
noncomputable def conf_Check.cx : Cx := ⟨Try.prog, tys, glo, 15, Try.f16, [.tmp 2]⟩
set_option maxHeartbeats 16000000 in
set_option maxRecDepth 100000 in
theorem conf_Check.ok {k : Nat} {a0_0 : Int} {a0_1 : Int} {l0_2 : List (S41)} {r0 : Int} (H : conf_Check.f k a0_0 a0_1 l0_2 = some r0) : CallOK Try.prog glo 16 [.agg [.imm (.int .i64 a0_0), .imm (.int .i64 a0_1), vS41 l0_2]] (.imm (.int .i64 r0)) := by
  unfold conf_Check.f at H
  refine CallOK.of (c := conf_Check.cx) Try.func16 (show (conf_Check.cx).fn.body = some _ from rfl) rfl rfl (Nat.le_of_ble_eq_true rfl) ?_
  repeat' (first
    | ((with_reducible replace H := some_ite H); obtain ⟨_, H⟩ := H)
    | (with_reducible replace H := true_ite H)
    | (with_reducible replace H := false_ite H)
    | ((with_reducible have hb := bool_ite H); clear H; rcases hb with ⟨e_, H⟩ | ⟨e_, H⟩ <;> subst e_)
    | ((with_reducible apply ROps.pure); (case hop => rfl); (case hw => rfl); (case hdst => rfl); (case hd => rfl))
    | (with_reducible apply ROps.nil)
    | (with_reducible apply Runs.seq)
    | (with_reducible apply Runs.region tysOK)
    | (with_reducible apply Runs.block)
    | (with_reducible apply Runs.skip)
    | (with_reducible apply Runs.inBlock)
    | (with_reducible apply Runs.scope)
    | (with_reducible apply Runs.inScope)
    | (with_reducible apply Runs.label)
    | ((with_reducible apply Runs.condT); (case ho => rfl))
    | ((with_reducible apply Runs.condF); (case ho => rfl))
    | ((with_reducible apply ROps.box); (case hop => rfl); (case hx => rfl); (case hrf => rfl); (all_goals try rfl))
    | ((with_reducible have hB : (conf_form.f _ _ _ _).bind _ = some _ := H); clear hB; (replace H := bind_some' H); (obtain ⟨t_, H1, H⟩ := H); (try dsimp only at H); (with_reducible apply ROps.call); (case hop => rfl); (case hc => exact conf_form.ok H1); (case ha => exact argsX); (case hw => rfl); (case hdst => rfl); (case hd => rfl))
    | ((with_reducible have hB : (conf_placed.f _ _ _ _).bind _ = some _ := H); clear hB; (replace H := bind_some' H); (obtain ⟨t_, H1, H⟩ := H); (try dsimp only at H); (with_reducible apply ROps.call); (case hop => rfl); (case hc => exact conf_placed.ok H1); (case ha => exact argsX); (case hw => rfl); (case hdst => rfl); (case hd => rfl))
    | ((with_reducible have hB : (conf_unlike.f _ _ _ _).bind _ = some _ := H); clear hB; (replace H := bind_some' H); (obtain ⟨t_, H1, H⟩ := H); (try dsimp only at H); (with_reducible apply ROps.call); (case hop => rfl); (case hc => exact conf_unlike.ok H1); (case ha => exact argsX); (case hw => rfl); (case hdst => rfl); (case hd => rfl))
    | ((with_reducible apply Runs.retP tysOK); (case hrs => rfl); (case h => rfl); (case hr => (cases H; exact refX)); (case hx => rfl))
    | exact leRX)
end Go.Proofs.Ytdcabfonjmeajaa.PAlloc
set_option linter.unusedVariables false
set_option linter.unusedSimpArgs false
namespace Go.Proofs.Ytdcabfonjmeajaa.PAlloc
open Go.RowKit Go.Proofs.YtdcabfonjmeajaaW.PrintWords Go.Proofs.YtdcabfonjmeajaaW.PrintLast Go.Proofs.YtdcabfonjmeajaaW.PrintMore Go.Proofs.Ytdcabfonjmeajaa.Abs
/-! ### conf_right: function 46 -/
def conf_right.f (k : Nat) (a0_0 : Int) (a0_1 : Int) (l0_2 : List (S41)) : Option ((List (S66))) := (conf_Check.f k a0_0 a0_1 l0_2).bind fun t200 => (if t200 = 0 then ((conf_spots.f k a0_0 a0_1 l0_2).bind fun t201 => (some t201)) else (some ([] : List (S66))))
noncomputable def conf_right.cx : Cx := ⟨Try.prog, tys, glo, 8, Try.f46, [.tmp 2]⟩
set_option maxHeartbeats 16000000 in
set_option maxRecDepth 100000 in
theorem conf_right.ok {k : Nat} {a0_0 : Int} {a0_1 : Int} {l0_2 : List (S41)} {r0 : List (S66)} (H : conf_right.f k a0_0 a0_1 l0_2 = some r0) : CallOK Try.prog glo 46 [.agg [.imm (.int .i64 a0_0), .imm (.int .i64 a0_1), vS41 l0_2]] (vS66 r0) := by
  unfold conf_right.f at H
  refine CallOK.of (c := conf_right.cx) Try.func46 (show (conf_right.cx).fn.body = some _ from rfl) rfl rfl (Nat.le_of_ble_eq_true rfl) ?_
  repeat' (first
    | ((with_reducible replace H := some_ite H); obtain ⟨_, H⟩ := H)
    | (with_reducible replace H := true_ite H)
    | (with_reducible replace H := false_ite H)
    | ((with_reducible have hb := bool_ite H); clear H; rcases hb with ⟨e_, H⟩ | ⟨e_, H⟩ <;> subst e_)
    | ((with_reducible apply ROps.pure); (case hop => rfl); (case hw => rfl); (case hdst => rfl); (case hd => rfl))
    | (with_reducible apply ROps.nil)
    | (with_reducible apply Runs.seq)
    | (with_reducible apply Runs.region tysOK)
    | (with_reducible apply Runs.skip)
    | (with_reducible apply Runs.scope)
    | (with_reducible apply Runs.inScope)
    | (with_reducible apply Runs.label)
    | ((with_reducible apply Runs.condT); (case ho => rfl))
    | ((with_reducible apply Runs.condF); (case ho => rfl))
    | ((with_reducible apply ROps.cmp); (case hop => exact cmpX); (case hw => rfl); (case hdst => rfl); (case hd => rfl); (all_goals (intro h; first | (replace H := ite_pos_ h H) | (replace H := ite_neg_ h H) | (replace H := beq_pos h H) | (replace H := beq_neg h H) | (replace H := beq_tt h H) | (replace H := beq_ff h H) | (replace H := ite_pos_ (Decidable.not_not.1 h) H) | (replace H := beq_pos (Decidable.not_not.1 h) H) | (replace H := beq_tt (Decidable.not_not.1 h) H) | ((try simp only [rdOf] at h); (try simp only [rdOf] at H); (rw [beq_t h] at H)) | ((try simp only [rdOf] at h); (try simp only [rdOf] at H); (rw [beq_f h] at H)) | ((try simp only [rdOf] at h); (try simp only [rdOf] at H); (rw [bne_t h] at H)) | ((try simp only [rdOf] at h); (try simp only [rdOf] at H); (rw [bne_f h] at H)) | ((try simp only [rdOf] at h); (try simp only [rdOf] at H); (rw [beq_t (Decidable.not_not.1 h)] at H)) | ((try simp only [rdOf] at h); (try simp only [rdOf] at H); (rw [bne_f (Decidable.not_not.1 h)] at H)) | ((try simp only [rdOf] at h); (try simp only [rdOf] at H); (rw [if_pos h] at H)) | ((try simp only [rdOf] at h); (try simp only [rdOf] at H); (rw [if_neg h] at H)) | contradiction | skip)))
    | ((with_reducible apply ROps.val); (case hop => exact valX); (case hw => rfl); (case hdst => rfl); (case hd => rfl))
    | ((with_reducible apply ROps.box); (case hop => rfl); (case hx => rfl); (case hrf => rfl); (all_goals try rfl))
    | ((with_reducible have hB : (conf_Check.f _ _ _ _).bind _ = some _ := H); clear hB; (replace H := bind_some' H); (obtain ⟨t_, H1, H⟩ := H); (try dsimp only at H); (with_reducible apply ROps.call); (case hop => rfl); (case hc => exact conf_Check.ok H1); (case ha => exact argsX); (case hw => rfl); (case hdst => rfl); (case hd => rfl))
    | ((with_reducible have hB : (conf_spots.f _ _ _ _).bind _ = some _ := H); clear hB; (replace H := bind_some' H); (obtain ⟨t_, H1, H⟩ := H); (try dsimp only at H); (with_reducible apply ROps.call); (case hop => rfl); (case hc => exact conf_spots.ok H1); (case ha => exact argsX); (case hw => rfl); (case hdst => rfl); (case hd => rfl))
    | ((with_reducible apply Runs.retP tysOK); (case hrs => rfl); (case h => rfl); (case hr => (cases H; exact refX)); (case hx => rfl))
    | exact leRX)
end Go.Proofs.Ytdcabfonjmeajaa.PAlloc
set_option linter.unusedVariables false
set_option linter.unusedSimpArgs false
namespace Go.Proofs.Ytdcabfonjmeajaa.PAlloc
open Go.RowKit Go.Proofs.YtdcabfonjmeajaaW.PrintWords Go.Proofs.YtdcabfonjmeajaaW.PrintLast Go.Proofs.YtdcabfonjmeajaaW.PrintMore Go.Proofs.Ytdcabfonjmeajaa.Abs
/-! ### conf_KeptFor: function 18 -/
mutual
def conf_KeptFor.l0 : Nat → Int → ByteArray → List (S66) → Int → Int → Option (Int × Bool)
  | 0, _, _, _, _, _ => none
  | k + 1, x1, x2, x13, x14, x15 => if x15 < x14 then (if 0 ≤ x15 then (if x15 < (x13.length : Int) then (conf_KeptFor.l1 k x1 x2 x13 x14 x15 ((rd_T66 x13 x15).f2.f3) (((rd_T66 x13 x15).f2.f3).length : Int) 0 ((rd_T66 x13 x15).f0) ((rd_T66 x13 x15).f1) ((rd_T66 x13 x15).f2.f0) ((rd_T66 x13 x15).f2.f1) ((rd_T66 x13 x15).f2.f2) ((rd_T66 x13 x15).f2.f3) ((rd_T66 x13 x15).f2.f4) ((rd_T66 x13 x15).f2.f5) ((rd_T66 x13 x15).f2.f6)) else (none)) else (none)) else (some (0, false))
def conf_KeptFor.l1 : Nat → Int → ByteArray → List (S66) → Int → Int → List (S59) → Int → Int → Int → Int → Int → Int → List (S62) → List (S59) → Int → Int → Int → Option (Int × Bool)
  | 0, _, _, _, _, _, _, _, _, _, _, _, _, _, _, _, _, _ => none
  | k + 1, x1, x2, x13, x14, x15, x21, x22, x23, x210000, x210001, x210002, x210003, x210004, x210005, x210006, x210007, x210008 => if x23 < x22 then (if 0 ≤ x23 then (if x23 < (x21.length : Int) then (if x210000 = x1 then (if ((rd_T59 x21 x23).f0).toList = x2.toList then (some ((rd_T59 x21 x23).f1, true)) else (conf_KeptFor.l1 k x1 x2 x13 x14 x15 x21 x22 (wrap64 (x23 + 1)) x210000 x210001 x210002 x210003 x210004 x210005 x210006 x210007 x210008)) else (conf_KeptFor.l1 k x1 x2 x13 x14 x15 x21 x22 (wrap64 (x23 + 1)) x210000 x210001 x210002 x210003 x210004 x210005 x210006 x210007 x210008)) else (none)) else (none)) else (conf_KeptFor.l0 k x1 x2 x13 x14 (wrap64 (x15 + 1)))
end
def conf_KeptFor.f (k : Nat) (a0_0 : Int) (a0_1 : Int) (l0_2 : List (S41)) (a1 : Int) (a2 : ByteArray) : Option (Int × Bool) := (conf_right.f k a0_0 a0_1 l0_2).bind fun t205 => (conf_KeptFor.l0 k a1 a2 t205 (t205.length : Int) 0)
noncomputable def conf_KeptFor.cx : Cx := ⟨Try.prog, tys, glo, 41, Try.f18, [.tmp 6, .tmp 7]⟩
set_option maxHeartbeats 16000000 in
set_option maxRecDepth 100000 in
theorem conf_KeptFor.ok {k : Nat} {a0_0 : Int} {a0_1 : Int} {l0_2 : List (S41)} {a1 : Int} {a2 : ByteArray} {r0 : Int} {r1 : Bool} (H : conf_KeptFor.f k a0_0 a0_1 l0_2 a1 a2 = some (r0, r1)) : CallOK Try.prog glo 18 [.agg [.imm (.int .i64 a0_0), .imm (.int .i64 a0_1), vS41 l0_2], .imm (.int .i64 a1), .imm (.string a2)] (.tup [.imm (.int .i64 r0), .imm (.bool r1)]) := by
  unfold conf_KeptFor.f at H
  refine CallOK.of (c := conf_KeptFor.cx) Try.func18 (show (conf_KeptFor.cx).fn.body = some _ from rfl) rfl rfl (Nat.le_of_ble_eq_true rfl) ?_
  repeat' (first
    | ((with_reducible replace H := some_ite H); obtain ⟨_, H⟩ := H)
    | (with_reducible replace H := true_ite H)
    | (with_reducible replace H := false_ite H)
    | ((with_reducible have hb := bool_ite H); clear H; rcases hb with ⟨e_, H⟩ | ⟨e_, H⟩ <;> subst e_)
    | ((with_reducible apply ROps.pure); (case hop => rfl); (case hw => rfl); (case hdst => rfl); (case hd => rfl))
    | (with_reducible apply ROps.nil)
    | (with_reducible apply Runs.seq)
    | (with_reducible apply Runs.region tysOK)
    | (with_reducible apply Runs.block)
    | (with_reducible apply Runs.skip)
    | (with_reducible apply Runs.inBlock)
    | (with_reducible apply Runs.scope)
    | (with_reducible apply Runs.inScope)
    | (with_reducible apply Runs.label)
    | ((with_reducible apply Runs.condT); (case ho => rfl))
    | ((with_reducible apply Runs.condF); (case ho => rfl))
    | ((with_reducible apply Runs.exit); (case he => rfl))
    | ((with_reducible apply ROps.store); (case hop => rfl); (all_goals try rfl))
    | ((with_reducible apply ROps.cmp); (case hop => exact cmpX); (case hw => rfl); (case hdst => rfl); (case hd => rfl); (all_goals (intro h; first | (replace H := ite_pos_ h H) | (replace H := ite_neg_ h H) | (replace H := dec_pos h H) | (replace H := dec_neg h H) | (replace H := dec_t h H) | (replace H := dec_f h H) | (replace H := beq_pos h H) | (replace H := beq_neg h H) | (replace H := beq_tt h H) | (replace H := beq_ff h H) | (replace H := ite_pos_ (Decidable.not_not.1 h) H) | (replace H := beq_pos (Decidable.not_not.1 h) H) | (replace H := beq_tt (Decidable.not_not.1 h) H) | ((try simp only [rd_T59, rd_T66, rdOf] at h); (try simp only [rd_T59, rd_T66, rdOf] at H); (rw [decide_eq_true h] at H)) | ((try simp only [rd_T59, rd_T66, rdOf] at h); (try simp only [rd_T59, rd_T66, rdOf] at H); (rw [decide_eq_false h] at H)) | ((try simp only [rd_T59, rd_T66, rdOf] at h); (try simp only [rd_T59, rd_T66, rdOf] at H); (rw [beq_t h] at H)) | ((try simp only [rd_T59, rd_T66, rdOf] at h); (try simp only [rd_T59, rd_T66, rdOf] at H); (rw [beq_f h] at H)) | ((try simp only [rd_T59, rd_T66, rdOf] at h); (try simp only [rd_T59, rd_T66, rdOf] at H); (rw [bne_t h] at H)) | ((try simp only [rd_T59, rd_T66, rdOf] at h); (try simp only [rd_T59, rd_T66, rdOf] at H); (rw [bne_f h] at H)) | ((try simp only [rd_T59, rd_T66, rdOf] at h); (try simp only [rd_T59, rd_T66, rdOf] at H); (rw [beq_t (Decidable.not_not.1 h)] at H)) | ((try simp only [rd_T59, rd_T66, rdOf] at h); (try simp only [rd_T59, rd_T66, rdOf] at H); (rw [bne_f (Decidable.not_not.1 h)] at H)) | ((try simp only [rd_T59, rd_T66, rdOf] at h); (try simp only [rd_T59, rd_T66, rdOf] at H); (rw [if_pos h] at H)) | ((try simp only [rd_T59, rd_T66, rdOf] at h); (try simp only [rd_T59, rd_T66, rdOf] at H); (rw [if_neg h] at H)) | contradiction | skip)))
    | ((with_reducible apply ROps.val); (case hop => exact valX); (case hw => rfl); (case hdst => rfl); (case hd => rfl))
    | ((with_reducible apply ROps.idx); (case hop => rfl); (case hx => rfl); (case hi => rfl); (case he => rfl); (case hw => rfl); (case hdst => rfl); (case hd => rfl); (case h0 => first | assumption | omega); (case h1 => first | assumption | omega))
    | ((with_reducible apply ROps.alloc); (case hop => rfl); (all_goals try rfl))
    | ((with_reducible apply ROps.box); (case hop => rfl); (case hx => rfl); (case hrf => rfl); (all_goals try rfl))
    | ((with_reducible apply ROps.off); (case hw => rfl); (case hdst => rfl); (case hd => rfl))
    | ((with_reducible have hB : (conf_right.f _ _ _ _).bind _ = some _ := H); clear hB; (replace H := bind_some' H); (obtain ⟨t_, H1, H⟩ := H); (try dsimp only at H); (with_reducible apply ROps.call); (case hop => rfl); (case hc => exact conf_right.ok H1); (case ha => exact argsX); (case hw => rfl); (case hdst => rfl); (case hd => rfl))
    | ((with_reducible apply Runs.loopK1 ((fun i0 i1 i2 i3 => fun kk (v0_15 : Int) => conf_KeptFor.l0 kk i0 i1 i2 i3 v0_15) _ _ _ _) [1, 2, 13, 14] [] (fun b v0_15 => [(15, .imm (.int .i64 v0_15))]) (fun v0_15 => []) _ _ [] H); (case h0 => intros; rfl); (any_goals (clear H; intro k0 hk0 ih0 v0_15 H; replace H : conf_KeptFor.l0 (k0 + 1) _ _ _ _ v0_15 = some _ := H; rw [conf_KeptFor.l0] at H)))
    | (with_reducible apply ih0 _ _ [] _ _ (by omega) H)
    | ((with_reducible apply Runs.loopK1 ((fun i0 i1 i2 i3 i4 i5 i6 i7 i8 i9 i10 i11 i12 i13 i14 i15 => fun kk (v1_23 : Int) => conf_KeptFor.l1 kk i0 i1 i2 i3 i4 i5 i6 v1_23 i7 i8 i9 i10 i11 i12 i13 i14 i15) _ _ _ _ _ _ _ _ _ _ _ _ _ _ _ _) [1, 2, 9, 13, 14, 15, 21, 22] [] (fun b v1_23 => [(23, .imm (.int .i64 v1_23))]) (fun v1_23 => []) _ _ [] H); (case h0 => intros; rfl); (any_goals (clear H; intro k1 hk1 ih1 v1_23 H; replace H : conf_KeptFor.l1 (k1 + 1) _ _ _ _ _ _ _ v1_23 _ _ _ _ _ _ _ _ _ = some _ := H; rw [conf_KeptFor.l1] at H)))
    | (with_reducible apply ih1 _ _ [] _ _ (by omega) H)
    | ((with_reducible apply Runs.retP tysOK); (case hrs => rfl); (case h => rfl); (case hr => (cases H; exact refX)); (case hx => rfl))
    | exact leRX)
end Go.Proofs.Ytdcabfonjmeajaa.PAlloc
set_option linter.unusedVariables false
set_option linter.unusedSimpArgs false
namespace Go.Proofs.Ytdcabfonjmeajaa.PAlloc
open Go.RowKit Go.Proofs.YtdcabfonjmeajaaW.PrintWords Go.Proofs.YtdcabfonjmeajaaW.PrintLast Go.Proofs.YtdcabfonjmeajaaW.PrintMore Go.Proofs.Ytdcabfonjmeajaa.Abs
/-! ### conf_Keeper: function 20 -/
mutual
def conf_Keeper.l0 : Nat → Int → List (S66) → Int → Int → Option (ByteArray × Bool)
  | 0, _, _, _, _ => none
  | k + 1, x1, x11, x12, x13 => if x13 < x12 then (if 0 ≤ x13 then (if x13 < (x11.length : Int) then (conf_Keeper.l1 k x1 x11 x12 x13 ((rd_T66 x11 x13).f2.f3) (((rd_T66 x11 x13).f2.f3).length : Int) 0) else (none)) else (none)) else (some ((⟨#[]⟩ : ByteArray), false))
def conf_Keeper.l1 : Nat → Int → List (S66) → Int → Int → List (S59) → Int → Int → Option (ByteArray × Bool)
  | 0, _, _, _, _, _, _, _ => none
  | k + 1, x1, x11, x12, x13, x19, x20, x21 => if x21 < x20 then (if 0 ≤ x21 then (if x21 < (x19.length : Int) then (if ((rd_T59 x19 x21).f1) = x1 then (some ((rd_T59 x19 x21).f0, true)) else (conf_Keeper.l1 k x1 x11 x12 x13 x19 x20 (wrap64 (x21 + 1)))) else (none)) else (none)) else (conf_Keeper.l0 k x1 x11 x12 (wrap64 (x13 + 1)))
end
def conf_Keeper.f (k : Nat) (a0_0 : Int) (a0_1 : Int) (l0_2 : List (S41)) (a1 : Int) : Option (ByteArray × Bool) := (conf_right.f k a0_0 a0_1 l0_2).bind fun t213 => (conf_Keeper.l0 k a1 t213 (t213.length : Int) 0)
noncomputable def conf_Keeper.cx : Cx := ⟨Try.prog, tys, glo, 33, Try.f20, [.tmp 4, .tmp 5]⟩
set_option maxHeartbeats 16000000 in
set_option maxRecDepth 100000 in
theorem conf_Keeper.ok {k : Nat} {a0_0 : Int} {a0_1 : Int} {l0_2 : List (S41)} {a1 : Int} {r0 : ByteArray} {r1 : Bool} (H : conf_Keeper.f k a0_0 a0_1 l0_2 a1 = some (r0, r1)) : CallOK Try.prog glo 20 [.agg [.imm (.int .i64 a0_0), .imm (.int .i64 a0_1), vS41 l0_2], .imm (.int .i64 a1)] (.tup [.imm (.string r0), .imm (.bool r1)]) := by
  unfold conf_Keeper.f at H
  refine CallOK.of (c := conf_Keeper.cx) Try.func20 (show (conf_Keeper.cx).fn.body = some _ from rfl) rfl rfl (Nat.le_of_ble_eq_true rfl) ?_
  repeat' (first
    | ((with_reducible replace H := some_ite H); obtain ⟨_, H⟩ := H)
    | (with_reducible replace H := true_ite H)
    | (with_reducible replace H := false_ite H)
    | ((with_reducible have hb := bool_ite H); clear H; rcases hb with ⟨e_, H⟩ | ⟨e_, H⟩ <;> subst e_)
    | ((with_reducible apply ROps.pure); (case hop => rfl); (case hw => rfl); (case hdst => rfl); (case hd => rfl))
    | (with_reducible apply ROps.nil)
    | (with_reducible apply Runs.seq)
    | (with_reducible apply Runs.region tysOK)
    | (with_reducible apply Runs.block)
    | (with_reducible apply Runs.skip)
    | (with_reducible apply Runs.inBlock)
    | (with_reducible apply Runs.scope)
    | (with_reducible apply Runs.inScope)
    | (with_reducible apply Runs.label)
    | ((with_reducible apply Runs.condT); (case ho => rfl))
    | ((with_reducible apply Runs.condF); (case ho => rfl))
    | ((with_reducible apply Runs.exit); (case he => rfl))
    | ((with_reducible apply ROps.store); (case hop => rfl); (all_goals try rfl))
    | ((with_reducible apply ROps.cmp); (case hop => exact cmpX); (case hw => rfl); (case hdst => rfl); (case hd => rfl); (all_goals (intro h; first | (replace H := ite_pos_ h H) | (replace H := ite_neg_ h H) | (replace H := dec_pos h H) | (replace H := dec_neg h H) | (replace H := dec_t h H) | (replace H := dec_f h H) | (replace H := beq_pos h H) | (replace H := beq_neg h H) | (replace H := beq_tt h H) | (replace H := beq_ff h H) | (replace H := ite_pos_ (Decidable.not_not.1 h) H) | (replace H := beq_pos (Decidable.not_not.1 h) H) | (replace H := beq_tt (Decidable.not_not.1 h) H) | ((try simp only [rd_T59, rd_T66, rdOf] at h); (try simp only [rd_T59, rd_T66, rdOf] at H); (rw [decide_eq_true h] at H)) | ((try simp only [rd_T59, rd_T66, rdOf] at h); (try simp only [rd_T59, rd_T66, rdOf] at H); (rw [decide_eq_false h] at H)) | ((try simp only [rd_T59, rd_T66, rdOf] at h); (try simp only [rd_T59, rd_T66, rdOf] at H); (rw [beq_t h] at H)) | ((try simp only [rd_T59, rd_T66, rdOf] at h); (try simp only [rd_T59, rd_T66, rdOf] at H); (rw [beq_f h] at H)) | ((try simp only [rd_T59, rd_T66, rdOf] at h); (try simp only [rd_T59, rd_T66, rdOf] at H); (rw [bne_t h] at H)) | ((try simp only [rd_T59, rd_T66, rdOf] at h); (try simp only [rd_T59, rd_T66, rdOf] at H); (rw [bne_f h] at H)) | ((try simp only [rd_T59, rd_T66, rdOf] at h); (try simp only [rd_T59, rd_T66, rdOf] at H); (rw [beq_t (Decidable.not_not.1 h)] at H)) | ((try simp only [rd_T59, rd_T66, rdOf] at h); (try simp only [rd_T59, rd_T66, rdOf] at H); (rw [bne_f (Decidable.not_not.1 h)] at H)) | ((try simp only [rd_T59, rd_T66, rdOf] at h); (try simp only [rd_T59, rd_T66, rdOf] at H); (rw [if_pos h] at H)) | ((try simp only [rd_T59, rd_T66, rdOf] at h); (try simp only [rd_T59, rd_T66, rdOf] at H); (rw [if_neg h] at H)) | contradiction | skip)))
    | ((with_reducible apply ROps.val); (case hop => exact valX); (case hw => rfl); (case hdst => rfl); (case hd => rfl))
    | ((with_reducible apply ROps.idx); (case hop => rfl); (case hx => rfl); (case hi => rfl); (case he => rfl); (case hw => rfl); (case hdst => rfl); (case hd => rfl); (case h0 => first | assumption | omega); (case h1 => first | assumption | omega))
    | ((with_reducible apply ROps.alloc); (case hop => rfl); (all_goals try rfl))
    | ((with_reducible apply ROps.box); (case hop => rfl); (case hx => rfl); (case hrf => rfl); (all_goals try rfl))
    | ((with_reducible have hB : (conf_right.f _ _ _ _).bind _ = some _ := H); clear hB; (replace H := bind_some' H); (obtain ⟨t_, H1, H⟩ := H); (try dsimp only at H); (with_reducible apply ROps.call); (case hop => rfl); (case hc => exact conf_right.ok H1); (case ha => exact argsX); (case hw => rfl); (case hdst => rfl); (case hd => rfl))
    | ((with_reducible apply Runs.loopK1 ((fun i0 i1 i2 => fun kk (v0_13 : Int) => conf_Keeper.l0 kk i0 i1 i2 v0_13) _ _ _) [1, 11, 12] [] (fun b v0_13 => [(13, .imm (.int .i64 v0_13))]) (fun v0_13 => []) _ _ [] H); (case h0 => intros; rfl); (any_goals (clear H; intro k0 hk0 ih0 v0_13 H; replace H : conf_Keeper.l0 (k0 + 1) _ _ _ v0_13 = some _ := H; rw [conf_Keeper.l0] at H)))
    | (with_reducible apply ih0 _ _ [] _ _ (by omega) H)
    | ((with_reducible apply Runs.loopK1 ((fun i0 i1 i2 i3 i4 i5 => fun kk (v1_21 : Int) => conf_Keeper.l1 kk i0 i1 i2 i3 i4 i5 v1_21) _ _ _ _ _ _) [1, 11, 12, 13, 19, 20] [] (fun b v1_21 => [(21, .imm (.int .i64 v1_21))]) (fun v1_21 => []) _ _ [] H); (case h0 => intros; rfl); (any_goals (clear H; intro k1 hk1 ih1 v1_21 H; replace H : conf_Keeper.l1 (k1 + 1) _ _ _ _ _ _ v1_21 = some _ := H; rw [conf_Keeper.l1] at H)))
    | (with_reducible apply ih1 _ _ [] _ _ (by omega) H)
    | ((with_reducible apply Runs.retP tysOK); (case hrs => rfl); (case h => rfl); (case hr => (cases H; exact refX)); (case hx => rfl))
    | exact leRX)
end Go.Proofs.Ytdcabfonjmeajaa.PAlloc
set_option linter.unusedVariables false
set_option linter.unusedSimpArgs false
namespace Go.Proofs.Ytdcabfonjmeajaa.PAlloc
open Go.RowKit Go.Proofs.YtdcabfonjmeajaaW.PrintWords Go.Proofs.YtdcabfonjmeajaaW.PrintLast Go.Proofs.YtdcabfonjmeajaaW.PrintMore Go.Proofs.Ytdcabfonjmeajaa.Abs
/-! ### conf_InPool: function 22 -/
mutual
def conf_InPool.l0 : Nat → Int → Int → List (S66) → Int → Int → Option (Bool)
  | 0, _, _, _, _, _ => none
  | k + 1, x1, x2, x12, x13, x14 => if x14 < x13 then (if 0 ≤ x14 then (if x14 < (x12.length : Int) then (conf_InPool.l1 k x1 x2 x12 x13 x14 ((rd_T66 x12 x14).f2.f2) (((rd_T66 x12 x14).f2.f2).length : Int) 0 ((rd_T66 x12 x14).f0) ((rd_T66 x12 x14).f1) ((rd_T66 x12 x14).f2.f0) ((rd_T66 x12 x14).f2.f1) ((rd_T66 x12 x14).f2.f2) ((rd_T66 x12 x14).f2.f3) ((rd_T66 x12 x14).f2.f4) ((rd_T66 x12 x14).f2.f5) ((rd_T66 x12 x14).f2.f6)) else (none)) else (none)) else (some false)
def conf_InPool.l1 : Nat → Int → Int → List (S66) → Int → Int → List (S62) → Int → Int → Int → Int → Int → Int → List (S62) → List (S59) → Int → Int → Int → Option (Bool)
  | 0, _, _, _, _, _, _, _, _, _, _, _, _, _, _, _, _, _ => none
  | k + 1, x1, x2, x12, x13, x14, x20, x21, x22, x226000, x226001, x226002, x226003, x226004, x226005, x226006, x226007, x226008 => if x22 < x21 then (if 0 ≤ x22 then (if x22 < (x20.length : Int) then (if x226000 = x1 then ((conf_has.f ((rd_T62 x20 x22).f0) ((rd_T62 x20 x22).f1) x2).bind fun t228 => (if t228 = true then (some true) else (conf_InPool.l1 k x1 x2 x12 x13 x14 x20 x21 (wrap64 (x22 + 1)) x226000 x226001 x226002 x226003 x226004 x226005 x226006 x226007 x226008))) else (conf_InPool.l1 k x1 x2 x12 x13 x14 x20 x21 (wrap64 (x22 + 1)) x226000 x226001 x226002 x226003 x226004 x226005 x226006 x226007 x226008)) else (none)) else (none)) else (conf_InPool.l0 k x1 x2 x12 x13 (wrap64 (x14 + 1)))
end
def conf_InPool.f (k : Nat) (a0_0 : Int) (a0_1 : Int) (l0_2 : List (S41)) (a1 : Int) (a2 : Int) : Option (Bool) := (conf_right.f k a0_0 a0_1 l0_2).bind fun t221 => (conf_InPool.l0 k a1 a2 t221 (t221.length : Int) 0)
noncomputable def conf_InPool.cx : Cx := ⟨Try.prog, tys, glo, 37, Try.f22, [.tmp 6]⟩
set_option maxHeartbeats 16000000 in
set_option maxRecDepth 100000 in
theorem conf_InPool.ok {k : Nat} {a0_0 : Int} {a0_1 : Int} {l0_2 : List (S41)} {a1 : Int} {a2 : Int} {r0 : Bool} (H : conf_InPool.f k a0_0 a0_1 l0_2 a1 a2 = some r0) : CallOK Try.prog glo 22 [.agg [.imm (.int .i64 a0_0), .imm (.int .i64 a0_1), vS41 l0_2], .imm (.int .i64 a1), .imm (.int .i64 a2)] (.imm (.bool r0)) := by
  unfold conf_InPool.f at H
  refine CallOK.of (c := conf_InPool.cx) Try.func22 (show (conf_InPool.cx).fn.body = some _ from rfl) rfl rfl (Nat.le_of_ble_eq_true rfl) ?_
  repeat' (first
    | ((with_reducible replace H := some_ite H); obtain ⟨_, H⟩ := H)
    | (with_reducible replace H := true_ite H)
    | (with_reducible replace H := false_ite H)
    | ((with_reducible have hb := bool_ite H); clear H; rcases hb with ⟨e_, H⟩ | ⟨e_, H⟩ <;> subst e_)
    | ((with_reducible apply ROps.pure); (case hop => rfl); (case hw => rfl); (case hdst => rfl); (case hd => rfl))
    | (with_reducible apply ROps.nil)
    | (with_reducible apply Runs.seq)
    | (with_reducible apply Runs.region tysOK)
    | (with_reducible apply Runs.block)
    | (with_reducible apply Runs.skip)
    | (with_reducible apply Runs.inBlock)
    | (with_reducible apply Runs.scope)
    | (with_reducible apply Runs.inScope)
    | (with_reducible apply Runs.label)
    | ((with_reducible apply Runs.condT); (case ho => rfl))
    | ((with_reducible apply Runs.condF); (case ho => rfl))
    | ((with_reducible apply Runs.exit); (case he => rfl))
    | ((with_reducible apply ROps.store); (case hop => rfl); (all_goals try rfl))
    | ((with_reducible apply ROps.cmp); (case hop => exact cmpX); (case hw => rfl); (case hdst => rfl); (case hd => rfl); (all_goals (intro h; first | (replace H := ite_pos_ h H) | (replace H := ite_neg_ h H) | (replace H := dec_pos h H) | (replace H := dec_neg h H) | (replace H := dec_t h H) | (replace H := dec_f h H) | (replace H := beq_pos h H) | (replace H := beq_neg h H) | (replace H := beq_tt h H) | (replace H := beq_ff h H) | (replace H := ite_pos_ (Decidable.not_not.1 h) H) | (replace H := beq_pos (Decidable.not_not.1 h) H) | (replace H := beq_tt (Decidable.not_not.1 h) H) | ((try simp only [rd_T62, rd_T66, rdOf] at h); (try simp only [rd_T62, rd_T66, rdOf] at H); (rw [decide_eq_true h] at H)) | ((try simp only [rd_T62, rd_T66, rdOf] at h); (try simp only [rd_T62, rd_T66, rdOf] at H); (rw [decide_eq_false h] at H)) | ((try simp only [rd_T62, rd_T66, rdOf] at h); (try simp only [rd_T62, rd_T66, rdOf] at H); (rw [beq_t h] at H)) | ((try simp only [rd_T62, rd_T66, rdOf] at h); (try simp only [rd_T62, rd_T66, rdOf] at H); (rw [beq_f h] at H)) | ((try simp only [rd_T62, rd_T66, rdOf] at h); (try simp only [rd_T62, rd_T66, rdOf] at H); (rw [bne_t h] at H)) | ((try simp only [rd_T62, rd_T66, rdOf] at h); (try simp only [rd_T62, rd_T66, rdOf] at H); (rw [bne_f h] at H)) | ((try simp only [rd_T62, rd_T66, rdOf] at h); (try simp only [rd_T62, rd_T66, rdOf] at H); (rw [beq_t (Decidable.not_not.1 h)] at H)) | ((try simp only [rd_T62, rd_T66, rdOf] at h); (try simp only [rd_T62, rd_T66, rdOf] at H); (rw [bne_f (Decidable.not_not.1 h)] at H)) | ((try simp only [rd_T62, rd_T66, rdOf] at h); (try simp only [rd_T62, rd_T66, rdOf] at H); (rw [if_pos h] at H)) | ((try simp only [rd_T62, rd_T66, rdOf] at h); (try simp only [rd_T62, rd_T66, rdOf] at H); (rw [if_neg h] at H)) | contradiction | skip)))
    | ((with_reducible apply ROps.val); (case hop => exact valX); (case hw => rfl); (case hdst => rfl); (case hd => rfl))
    | ((with_reducible apply ROps.idx); (case hop => rfl); (case hx => rfl); (case hi => rfl); (case he => rfl); (case hw => rfl); (case hdst => rfl); (case hd => rfl); (case h0 => first | assumption | omega); (case h1 => first | assumption | omega))
    | ((with_reducible apply ROps.alloc); (case hop => rfl); (all_goals try rfl))
    | ((with_reducible apply ROps.box); (case hop => rfl); (case hx => rfl); (case hrf => rfl); (all_goals try rfl))
    | ((with_reducible apply ROps.off); (case hw => rfl); (case hdst => rfl); (case hd => rfl))
    | ((with_reducible have hB : (conf_right.f _ _ _ _).bind _ = some _ := H); clear hB; (replace H := bind_some' H); (obtain ⟨t_, H1, H⟩ := H); (try dsimp only at H); (with_reducible apply ROps.call); (case hop => rfl); (case hc => exact conf_right.ok H1); (case ha => exact argsX); (case hw => rfl); (case hdst => rfl); (case hd => rfl))
    | ((with_reducible have hB : (conf_has.f _ _ _).bind _ = some _ := H); clear hB; (replace H := bind_some' H); (obtain ⟨t_, H1, H⟩ := H); (try dsimp only at H); (with_reducible apply ROps.call); (case hop => rfl); (case hc => exact conf_has.ok H1); (case ha => exact argsX); (case hw => rfl); (case hdst => rfl); (case hd => rfl))
    | ((with_reducible apply Runs.loopK1 ((fun i0 i1 i2 i3 => fun kk (v0_14 : Int) => conf_InPool.l0 kk i0 i1 i2 i3 v0_14) _ _ _ _) [1, 2, 12, 13] [] (fun b v0_14 => [(14, .imm (.int .i64 v0_14))]) (fun v0_14 => []) _ _ [] H); (case h0 => intros; rfl); (any_goals (clear H; intro k0 hk0 ih0 v0_14 H; replace H : conf_InPool.l0 (k0 + 1) _ _ _ _ v0_14 = some _ := H; rw [conf_InPool.l0] at H)))
    | (with_reducible apply ih0 _ _ [] _ _ (by omega) H)
    | ((with_reducible apply Runs.loopK1 ((fun i0 i1 i2 i3 i4 i5 i6 i7 i8 i9 i10 i11 i12 i13 i14 i15 => fun kk (v1_22 : Int) => conf_InPool.l1 kk i0 i1 i2 i3 i4 i5 i6 v1_22 i7 i8 i9 i10 i11 i12 i13 i14 i15) _ _ _ _ _ _ _ _ _ _ _ _ _ _ _ _) [1, 2, 8, 12, 13, 14, 20, 21] [] (fun b v1_22 => [(22, .imm (.int .i64 v1_22))]) (fun v1_22 => []) _ _ [] H); (case h0 => intros; rfl); (any_goals (clear H; intro k1 hk1 ih1 v1_22 H; replace H : conf_InPool.l1 (k1 + 1) _ _ _ _ _ _ _ v1_22 _ _ _ _ _ _ _ _ _ = some _ := H; rw [conf_InPool.l1] at H)))
    | (with_reducible apply ih1 _ _ [] _ _ (by omega) H)
    | ((with_reducible apply Runs.retP tysOK); (case hrs => rfl); (case h => rfl); (case hr => (cases H; exact refX)); (case hx => rfl))
    | exact leRX)
end Go.Proofs.Ytdcabfonjmeajaa.PAlloc
set_option linter.unusedVariables false
set_option linter.unusedSimpArgs false
namespace Go.Proofs.Ytdcabfonjmeajaa.PAlloc
open Go.RowKit Go.Proofs.YtdcabfonjmeajaaW.PrintWords Go.Proofs.YtdcabfonjmeajaaW.PrintLast Go.Proofs.YtdcabfonjmeajaaW.PrintMore Go.Proofs.Ytdcabfonjmeajaa.Abs
/-! ### record_Right: function 88 -/
def record_Right.f (a0_0 : Int) (a0_1 : Int) (a0_2 : Int) (a0_3 : ByteArray) : Option (Bool) := (addr_Right.f a0_0).bind fun t230 => (if t230 = true then (if a0_1 ≥ 1 then (if a0_1 ≤ 3 then (if a0_2 ≥ 0 then (if a0_2 ≤ 1125899906842624 then ((key_Right.f a0_3).bind fun t231 => (some t231)) else (some false)) else (some false)) else (some false)) else (some false)) else (some false))
noncomputable def record_Right.cx : Cx := ⟨Try.prog, tys, glo, 31, Try.f88, [.tmp 2]⟩
set_option maxHeartbeats 16000000 in
set_option maxRecDepth 100000 in
theorem record_Right.ok {a0_0 : Int} {a0_1 : Int} {a0_2 : Int} {a0_3 : ByteArray} {r0 : Bool} (H : record_Right.f a0_0 a0_1 a0_2 a0_3 = some r0) : CallOK Try.prog glo 88 [.agg [.imm (.int .i64 a0_0), .imm (.int .i64 a0_1), .imm (.int .i64 a0_2), .imm (.string a0_3)]] (.imm (.bool r0)) := by
  unfold record_Right.f at H
  refine CallOK.of (c := record_Right.cx) Try.func88 (show (record_Right.cx).fn.body = some _ from rfl) rfl rfl (Nat.le_of_ble_eq_true rfl) ?_
  repeat' (first
    | ((with_reducible replace H := some_ite H); obtain ⟨_, H⟩ := H)
    | (with_reducible replace H := some_bind_ H)
    | (with_reducible replace H := true_ite H)
    | (with_reducible replace H := false_ite H)
    | ((with_reducible have hb := bool_ite H); clear H; rcases hb with ⟨e_, H⟩ | ⟨e_, H⟩ <;> subst e_)
    | ((with_reducible apply ROps.pure); (case hop => rfl); (case hw => rfl); (case hdst => rfl); (case hd => rfl))
    | (with_reducible apply ROps.nil)
    | (with_reducible apply Runs.seq)
    | (with_reducible apply Runs.region tysOK)
    | (with_reducible apply Runs.scope)
    | (with_reducible apply Runs.inScope)
    | (with_reducible apply Runs.label)
    | ((with_reducible apply ROps.cmp); (case hop => exact cmpX); (case hw => rfl); (case hdst => rfl); (case hd => rfl); (all_goals (intro h; first | (replace H := ite_pos_ h H) | (replace H := ite_neg_ h H) | (replace H := dec_pos h H) | (replace H := dec_neg h H) | (replace H := dec_t h H) | (replace H := dec_f h H) | (replace H := ite_pos_ (Decidable.not_not.1 h) H) | ((try simp only [rdOf] at h); (try simp only [rdOf] at H); (rw [decide_eq_true h] at H)) | ((try simp only [rdOf] at h); (try simp only [rdOf] at H); (rw [decide_eq_false h] at H)) | ((try simp only [rdOf] at h); (try simp only [rdOf] at H); (rw [if_pos h] at H)) | ((try simp only [rdOf] at h); (try simp only [rdOf] at H); (rw [if_neg h] at H)) | contradiction | skip)))
    | ((with_reducible apply ROps.box); (case hop => rfl); (case hx => rfl); (case hrf => rfl); (all_goals try rfl))
    | ((with_reducible apply ROps.off); (case hw => rfl); (case hdst => rfl); (case hd => rfl))
    | ((with_reducible have hB : (addr_Right.f _).bind _ = some _ := H); clear hB; (replace H := bind_some' H); (obtain ⟨t_, H1, H⟩ := H); (try dsimp only at H); (with_reducible apply ROps.call); (case hop => rfl); (case hc => exact addr_Right.ok H1); (case ha => exact argsX); (case hw => rfl); (case hdst => rfl); (case hd => rfl))
    | ((with_reducible have hB : (key_Right.f _).bind _ = some _ := H); clear hB; (replace H := bind_some' H); (obtain ⟨t_, H1, H⟩ := H); (try dsimp only at H); (with_reducible apply ROps.call); (case hop => rfl); (case hc => exact key_Right.ok H1); (case ha => exact argsX); (case hw => rfl); (case hdst => rfl); (case hd => rfl))
    | ((with_reducible apply Runs.retP tysOK); (case hrs => rfl); (case h => rfl); (case hr => (cases H; exact refX)); (case hx => rfl))
    | exact leRX)
end Go.Proofs.Ytdcabfonjmeajaa.PAlloc
set_option linter.unusedVariables false
set_option linter.unusedSimpArgs false
namespace Go.Proofs.Ytdcabfonjmeajaa.PAlloc
open Go.RowKit Go.Proofs.YtdcabfonjmeajaaW.PrintWords Go.Proofs.YtdcabfonjmeajaaW.PrintLast Go.Proofs.YtdcabfonjmeajaaW.PrintMore Go.Proofs.Ytdcabfonjmeajaa.Abs
/-! ### table_Right: function 79 -/
def table_Right.l0 : Nat → List (S47) → List (S47) → Int → Int → Option (Bool)
  | 0, _, _, _, _ => none
  | k + 1, x0, x5, x6, x7 => if x7 < x6 then (if 0 ≤ x7 then (if x7 < (x5.length : Int) then ((record_Right.f ((rd_T47 x5 x7).f0) ((rd_T47 x5 x7).f1) ((rd_T47 x5 x7).f2) ((rd_T47 x5 x7).f3)).bind fun t234 => (if t234 = true then (if x7 > 0 then (if 0 ≤ (wrap64 (x7 - 1)) then (if (wrap64 (x7 - 1)) < (x0.length : Int) then (if ((rd_T47 x0 (wrap64 (x7 - 1))).f0) ≥ ((rd_T47 x5 x7).f0) then (some false) else (table_Right.l0 k x0 x5 x6 (wrap64 (x7 + 1)))) else (none)) else (none)) else (table_Right.l0 k x0 x5 x6 (wrap64 (x7 + 1)))) else (some false))) else (none)) else (none)) else (some (decide ((x0.length : Int) ≤ 64)))
def table_Right.f (k : Nat) (l0 : List (S47)) : Option (Bool) := table_Right.l0 k l0 l0 (l0.length : Int) 0
def table_Right.T4 : Bool × List (List Nat × List Nat) := (true, [([], []), ([0], [0]), ([1], [1]), ([2, 1], [2]), ([3], [3]), ([4, 3], [3, 4]), ([5, 3, 3], [3, 5]), ([6], [6]), ([6], [6]), ([8, 6], [6, 8]), ([7, 9, 6], [6, 7, 9]), ([10, 6], [6, 10]), ([11, 6], [6, 11]), ([6], [6]), ([13, 6], [6, 13]), ([12, 14, 6], [6, 12, 14]), ([6, 15, 3], [3, 6, 15]), ([3, 16], [3, 16])])
def table_Right.B4 : List Nat := [0, 1, 3, 7, 15, 31, 63, 127, 127, 383, 1023, 2047, 4095, 127, 8319, 32767, 65535, 131071]
noncomputable def table_Right.cx : Cx := ⟨Try.prog, tys, glo, 34, Try.f79, [.tmp 2]⟩
set_option maxHeartbeats 16000000 in
set_option maxRecDepth 100000 in
theorem table_Right.ok {k : Nat} {l0 : List (S47)} {r0 : Bool} (H : table_Right.f k l0 = some r0) : CallOK Try.prog glo 79 [vS47 l0] (.imm (.bool r0)) := by
  unfold table_Right.f at H
  refine CallOK.of (c := table_Right.cx) Try.func79 (show (table_Right.cx).fn.body = some _ from rfl) rfl rfl (Nat.le_of_ble_eq_true rfl) ?_
  repeat' (first
    | ((with_reducible replace H := some_ite H); obtain ⟨_, H⟩ := H)
    | (with_reducible replace H := true_ite H)
    | (with_reducible replace H := false_ite H)
    | ((with_reducible have hb := bool_ite H); clear H; rcases hb with ⟨e_, H⟩ | ⟨e_, H⟩ <;> subst e_)
    | ((first | with_reducible apply ROps.pure | with_reducible apply DOps.pure); (case hop => rfl); (case hw => rfl); (case hdst => rfl); (case hd => rfl))
    | (first | with_reducible apply ROps.nil | with_reducible apply DOps.nil)
    | (with_reducible apply Runs.seq)
    | (with_reducible apply Runs.region tysOK)
    | ((with_reducible apply Runs.drawn tysOK mixed); (case hB => kernel_rfl))
    | (with_reducible apply Runs.block)
    | (with_reducible apply Runs.skip)
    | (with_reducible apply Runs.inBlock)
    | (with_reducible apply Runs.scope)
    | (with_reducible apply Runs.inScope)
    | (with_reducible apply Runs.label)
    | ((with_reducible apply Runs.condT); (case ho => rfl))
    | ((with_reducible apply Runs.condF); (case ho => rfl))
    | ((with_reducible apply Runs.exit); (case he => rfl))
    | ((with_reducible apply ROps.store); (case hop => rfl); (all_goals try rfl))
    | ((first | with_reducible apply ROps.cmp | with_reducible apply DOps.cmp); (case hop => exact cmpX); (case hw => rfl); (case hdst => rfl); (case hd => rfl); (all_goals (intro h; first | (replace H := ite_pos_ h H) | (replace H := ite_neg_ h H) | (replace H := dec_pos h H) | (replace H := dec_neg h H) | (replace H := dec_t h H) | (replace H := dec_f h H) | (replace H := ite_pos_ (Decidable.not_not.1 h) H) | ((try simp only [rd_T47, rdOf] at h); (try simp only [rd_T47, rdOf] at H); (rw [decide_eq_true h] at H)) | ((try simp only [rd_T47, rdOf] at h); (try simp only [rd_T47, rdOf] at H); (rw [decide_eq_false h] at H)) | ((try simp only [rd_T47, rdOf] at h); (try simp only [rd_T47, rdOf] at H); (rw [if_pos h] at H)) | ((try simp only [rd_T47, rdOf] at h); (try simp only [rd_T47, rdOf] at H); (rw [if_neg h] at H)) | contradiction | skip)))
    | ((first | with_reducible apply ROps.val | with_reducible apply DOps.val); (case hop => exact valX); (case hw => rfl); (case hdst => rfl); (case hd => rfl))
    | ((first | with_reducible apply ROps.idx | with_reducible apply DOps.idx); (case hop => rfl); (case hx => rfl); (case hi => rfl); (case he => rfl); (case hw => rfl); (case hdst => rfl); (case hd => rfl); (case h0 => first | assumption | omega); (case h1 => first | assumption | omega))
    | ((with_reducible apply ROps.alloc); (case hop => rfl); (all_goals try rfl))
    | ((first | with_reducible apply ROps.off | with_reducible apply DOps.off); (case hw => rfl); (case hdst => rfl); (case hd => rfl))
    | ((with_reducible have hB : (record_Right.f _ _ _ _).bind _ = some _ := H); clear hB; (replace H := bind_some' H); (obtain ⟨t_, H1, H⟩ := H); (try dsimp only at H); (first | with_reducible apply ROps.call | with_reducible apply DOps.call); (case hop => rfl); (case hc => exact record_Right.ok H1); (case ha => exact argsX); (case hw => rfl); (case hdst => rfl); (case hd => rfl))
    | ((with_reducible apply Runs.loopK1 ((fun i0 i1 i2 => fun kk (v0_7 : Int) => table_Right.l0 kk i0 i1 i2 v0_7) _ _ _) [0, 5, 6] [] (fun b v0_7 => [(7, .imm (.int .i64 v0_7))]) (fun v0_7 => []) _ _ [] H); (case h0 => intros; rfl); (any_goals (clear H; intro k0 hk0 ih0 v0_7 H; replace H : table_Right.l0 (k0 + 1) _ _ _ v0_7 = some _ := H; rw [table_Right.l0] at H)))
    | (with_reducible apply ih0 _ _ [] _ _ (by omega) H)
    | ((with_reducible apply Runs.retP tysOK); (case hrs => rfl); (case h => rfl); (case hr => (cases H; exact refX)); (case hx => rfl))
    | exact leRX)
end Go.Proofs.Ytdcabfonjmeajaa.PAlloc
set_option linter.unusedVariables false
set_option linter.unusedSimpArgs false
namespace Go.Proofs.Ytdcabfonjmeajaa.PAlloc
open Go.RowKit Go.Proofs.YtdcabfonjmeajaaW.PrintWords Go.Proofs.YtdcabfonjmeajaaW.PrintLast Go.Proofs.YtdcabfonjmeajaaW.PrintMore Go.Proofs.Ytdcabfonjmeajaa.Abs
/-! ### alloc_fair: function 52 -/
def alloc_fair.f (k : Nat) (a0_0 : Int) (a0_1 : Int) (l0_2 : List (S41)) (l1 : List (S47)) (a2 : Int) (a3 : ByteArray) : Option (Bool) := (conf_Check.f k a0_0 a0_1 l0_2).bind fun t237 => (if t237 = 0 then ((table_Right.f k l1).bind fun t238 => (if t238 = true then ((key_Right.f a3).bind fun t239 => (if t239 = true then (if a2 ≥ 0 then (some (decide (a2 < (l0_2.length : Int)))) else (some false)) else (some false))) else (some false))) else (some false))
noncomputable def alloc_fair.cx : Cx := ⟨Try.prog, tys, glo, 31, Try.f52, [.tmp 8]⟩
set_option maxHeartbeats 16000000 in
set_option maxRecDepth 100000 in
theorem alloc_fair.ok {k : Nat} {a0_0 : Int} {a0_1 : Int} {l0_2 : List (S41)} {l1 : List (S47)} {a2 : Int} {a3 : ByteArray} {r0 : Bool} (H : alloc_fair.f k a0_0 a0_1 l0_2 l1 a2 a3 = some r0) : CallOK Try.prog glo 52 [.agg [.imm (.int .i64 a0_0), .imm (.int .i64 a0_1), vS41 l0_2], vS47 l1, .imm (.int .i64 a2), .imm (.string a3)] (.imm (.bool r0)) := by
  unfold alloc_fair.f at H
  refine CallOK.of (c := alloc_fair.cx) Try.func52 (show (alloc_fair.cx).fn.body = some _ from rfl) rfl rfl (Nat.le_of_ble_eq_true rfl) ?_
  repeat' (first
    | ((with_reducible replace H := some_ite H); obtain ⟨_, H⟩ := H)
    | (with_reducible replace H := true_ite H)
    | (with_reducible replace H := false_ite H)
    | ((with_reducible have hb := bool_ite H); clear H; rcases hb with ⟨e_, H⟩ | ⟨e_, H⟩ <;> subst e_)
    | ((with_reducible apply ROps.pure); (case hop => rfl); (case hw => rfl); (case hdst => rfl); (case hd => rfl))
    | (with_reducible apply ROps.nil)
    | (with_reducible apply Runs.seq)
    | (with_reducible apply Runs.region tysOK)
    | (with_reducible apply Runs.scope)
    | (with_reducible apply Runs.inScope)
    | (with_reducible apply Runs.label)
    | ((with_reducible apply ROps.cmp); (case hop => exact cmpX); (case hw => rfl); (case hdst => rfl); (case hd => rfl); (all_goals (intro h; first | (replace H := ite_pos_ h H) | (replace H := ite_neg_ h H) | (replace H := dec_pos h H) | (replace H := dec_neg h H) | (replace H := dec_t h H) | (replace H := dec_f h H) | (replace H := beq_pos h H) | (replace H := beq_neg h H) | (replace H := beq_tt h H) | (replace H := beq_ff h H) | (replace H := ite_pos_ (Decidable.not_not.1 h) H) | (replace H := beq_pos (Decidable.not_not.1 h) H) | (replace H := beq_tt (Decidable.not_not.1 h) H) | ((try simp only [rdOf] at h); (try simp only [rdOf] at H); (rw [decide_eq_true h] at H)) | ((try simp only [rdOf] at h); (try simp only [rdOf] at H); (rw [decide_eq_false h] at H)) | ((try simp only [rdOf] at h); (try simp only [rdOf] at H); (rw [beq_t h] at H)) | ((try simp only [rdOf] at h); (try simp only [rdOf] at H); (rw [beq_f h] at H)) | ((try simp only [rdOf] at h); (try simp only [rdOf] at H); (rw [bne_t h] at H)) | ((try simp only [rdOf] at h); (try simp only [rdOf] at H); (rw [bne_f h] at H)) | ((try simp only [rdOf] at h); (try simp only [rdOf] at H); (rw [beq_t (Decidable.not_not.1 h)] at H)) | ((try simp only [rdOf] at h); (try simp only [rdOf] at H); (rw [bne_f (Decidable.not_not.1 h)] at H)) | ((try simp only [rdOf] at h); (try simp only [rdOf] at H); (rw [if_pos h] at H)) | ((try simp only [rdOf] at h); (try simp only [rdOf] at H); (rw [if_neg h] at H)) | contradiction | skip)))
    | ((with_reducible apply ROps.val); (case hop => exact valX); (case hw => rfl); (case hdst => rfl); (case hd => rfl))
    | ((with_reducible apply ROps.box); (case hop => rfl); (case hx => rfl); (case hrf => rfl); (all_goals try rfl))
    | ((with_reducible apply ROps.off); (case hw => rfl); (case hdst => rfl); (case hd => rfl))
    | ((with_reducible have hB : (conf_Check.f _ _ _ _).bind _ = some _ := H); clear hB; (replace H := bind_some' H); (obtain ⟨t_, H1, H⟩ := H); (try dsimp only at H); (with_reducible apply ROps.call); (case hop => rfl); (case hc => exact conf_Check.ok H1); (case ha => exact argsX); (case hw => rfl); (case hdst => rfl); (case hd => rfl))
    | ((with_reducible have hB : (table_Right.f _ _).bind _ = some _ := H); clear hB; (replace H := bind_some' H); (obtain ⟨t_, H1, H⟩ := H); (try dsimp only at H); (with_reducible apply ROps.call); (case hop => rfl); (case hc => exact table_Right.ok H1); (case ha => exact argsX); (case hw => rfl); (case hdst => rfl); (case hd => rfl))
    | ((with_reducible have hB : (key_Right.f _).bind _ = some _ := H); clear hB; (replace H := bind_some' H); (obtain ⟨t_, H1, H⟩ := H); (try dsimp only at H); (with_reducible apply ROps.call); (case hop => rfl); (case hc => exact key_Right.ok H1); (case ha => exact argsX); (case hw => rfl); (case hdst => rfl); (case hd => rfl))
    | ((with_reducible apply Runs.retP tysOK); (case hrs => rfl); (case h => rfl); (case hr => (cases H; exact refX)); (case hx => rfl))
    | exact leRX)
end Go.Proofs.Ytdcabfonjmeajaa.PAlloc
set_option linter.unusedVariables false
set_option linter.unusedSimpArgs false
namespace Go.Proofs.Ytdcabfonjmeajaa.PAlloc
open Go.RowKit Go.Proofs.YtdcabfonjmeajaaW.PrintWords Go.Proofs.YtdcabfonjmeajaaW.PrintLast Go.Proofs.YtdcabfonjmeajaaW.PrintMore Go.Proofs.Ytdcabfonjmeajaa.Abs
/-! ### table_good: function 81 -/
def table_good.f (k : Nat) (l0 : List (S47)) : Option ((List (S47))) := (table_Right.f k l0).bind fun t240 => (if t240 = true then ((some (([] : List (S47)) : List (S47))).bind fun y241 => (if y241.length + l0.length < 3518437208883 then (some (y241 ++ l0)) else (none))) else (some ([] : List (S47))))
noncomputable def table_good.cx : Cx := ⟨Try.prog, tys, glo, 9, Try.f81, [.tmp 2]⟩
set_option maxHeartbeats 16000000 in
set_option maxRecDepth 100000 in
theorem table_good.ok {k : Nat} {l0 : List (S47)} {r0 : List (S47)} (H : table_good.f k l0 = some r0) : CallOK Try.prog glo 81 [vS47 l0] (vS47 r0) := by
  unfold table_good.f at H
  refine CallOK.of (c := table_good.cx) Try.func81 (show (table_good.cx).fn.body = some _ from rfl) rfl rfl (Nat.le_of_ble_eq_true rfl) ?_
  repeat' (first
    | ((with_reducible apply ROps.litO); (case hdst => exact (rfl : _ = some 6)); (case hop => rfl); (case hti => rfl); (case hsz => rfl); (case hl => rfl); (case hrf => rfl); (all_goals try rfl))
    | ((with_reducible replace H := some_ite H); obtain ⟨_, H⟩ := H)
    | (with_reducible replace H := some_bind_ H)
    | (with_reducible replace H := true_ite H)
    | (with_reducible replace H := false_ite H)
    | ((with_reducible have hb := bool_ite H); clear H; rcases hb with ⟨e_, H⟩ | ⟨e_, H⟩ <;> subst e_)
    | ((with_reducible apply ROps.pure); (case hop => rfl); (case hw => rfl); (case hdst => rfl); (case hd => rfl))
    | (with_reducible apply ROps.nil)
    | (with_reducible apply Runs.seq)
    | (with_reducible apply Runs.region tysOK)
    | (with_reducible apply Runs.skip)
    | (with_reducible apply Runs.scope)
    | (with_reducible apply Runs.inScope)
    | (with_reducible apply Runs.label)
    | ((with_reducible apply Runs.condT); (case ho => rfl))
    | ((with_reducible apply Runs.condF); (case ho => rfl))
    | ((with_reducible apply ROps.lit); (case hop => rfl); (case hti => rfl); (case hsz => rfl); (case hl => rfl); (case hrf => rfl); (all_goals try rfl))
    | ((with_reducible apply ROps.app); (case hop => rfl); (case hti => rfl); (case hsz => rfl); (case hs => rfl); (case hR => rfl); (case hx => rfl); (case hb => constructor <;> ((try simp only [maxLen, List.length_nil, List.length_cons, List.length_append] at *); omega)); (all_goals try rfl))
    | ((with_reducible apply ROps.appN); (case hop => rfl); (case hti => rfl); (case hsz => rfl); (case hs => rfl); (case hx => rfl); (case hb => constructor <;> ((try simp only [maxLen, List.length_nil, List.length_cons, List.length_append] at *); omega)); (all_goals try rfl))
    | ((with_reducible have hB : (table_Right.f _ _).bind _ = some _ := H); clear hB; (replace H := bind_some' H); (obtain ⟨t_, H1, H⟩ := H); (try dsimp only at H); (with_reducible apply ROps.call); (case hop => rfl); (case hc => exact table_Right.ok H1); (case ha => exact argsX); (case hw => rfl); (case hdst => rfl); (case hd => rfl))
    | ((with_reducible apply Runs.retP tysOK); (case hrs => rfl); (case h => rfl); (case hr => (cases H; exact refX)); (case hx => rfl))
    | exact leRX)
end Go.Proofs.Ytdcabfonjmeajaa.PAlloc
set_option linter.unusedVariables false
set_option linter.unusedSimpArgs false
namespace Go.Proofs.Ytdcabfonjmeajaa.PAlloc
open Go.RowKit Go.Proofs.YtdcabfonjmeajaaW.PrintWords Go.Proofs.YtdcabfonjmeajaaW.PrintLast Go.Proofs.YtdcabfonjmeajaaW.PrintMore Go.Proofs.Ytdcabfonjmeajaa.Abs
/-! ### table_Of: function 53 -/
def table_Of.l0 : Nat → ByteArray → List (S47) → List (S47) → Int → Int → Option ((List (S47)))
  | 0, _, _, _, _, _ => none
  | k + 1, x1, x5, x9, x10, x11 => if x11 < x10 then (if 0 ≤ x11 then (if x11 < (x9.length : Int) then (if ((rd_T47 x9 x11).f3).toList = x1.toList then (if x5.length < 3518437208883 then (table_Of.l0 k x1 (x5 ++ [(⟨(rd_T47 x9 x11).f0, (rd_T47 x9 x11).f1, (rd_T47 x9 x11).f2, (rd_T47 x9 x11).f3⟩ : S47)]) x9 x10 (wrap64 (x11 + 1))) else (none)) else (table_Of.l0 k x1 x5 x9 x10 (wrap64 (x11 + 1)))) else (none)) else (none)) else (some x5)
def table_Of.f (k : Nat) (l0 : List (S47)) (a1 : ByteArray) : Option ((List (S47))) := (table_good.f k l0).bind fun t247 => (table_Of.l0 k a1 ([] : List (S47)) t247 (t247.length : Int) 0)
noncomputable def table_Of.cx : Cx := ⟨Try.prog, tys, glo, 25, Try.f53, [.tmp 4]⟩
set_option maxHeartbeats 16000000 in
set_option maxRecDepth 100000 in
theorem table_Of.ok {k : Nat} {l0 : List (S47)} {a1 : ByteArray} {r0 : List (S47)} (H : table_Of.f k l0 a1 = some r0) : CallOK Try.prog glo 53 [vS47 l0, .imm (.string a1)] (vS47 r0) := by
  unfold table_Of.f at H
  refine CallOK.of (c := table_Of.cx) Try.func53 (show (table_Of.cx).fn.body = some _ from rfl) rfl rfl (Nat.le_of_ble_eq_true rfl) ?_
  repeat' (first
    | ((with_reducible replace H := some_ite H); obtain ⟨_, H⟩ := H)
    | (with_reducible replace H := true_ite H)
    | (with_reducible replace H := false_ite H)
    | ((with_reducible have hb := bool_ite H); clear H; rcases hb with ⟨e_, H⟩ | ⟨e_, H⟩ <;> subst e_)
    | ((with_reducible apply ROps.pure); (case hop => rfl); (case hw => rfl); (case hdst => rfl); (case hd => rfl))
    | (with_reducible apply ROps.nil)
    | (with_reducible apply Runs.seq)
    | (with_reducible apply Runs.region tysOK)
    | (with_reducible apply Runs.block)
    | (with_reducible apply Runs.skip)
    | (with_reducible apply Runs.inBlock)
    | (with_reducible apply Runs.scope)
    | (with_reducible apply Runs.inScope)
    | (with_reducible apply Runs.label)
    | ((with_reducible apply Runs.condT); (case ho => rfl))
    | ((with_reducible apply Runs.condF); (case ho => rfl))
    | ((with_reducible apply Runs.exit); (case he => rfl))
    | ((with_reducible apply ROps.store); (case hop => rfl); (all_goals try rfl))
    | ((with_reducible apply ROps.cmp); (case hop => exact cmpX); (case hw => rfl); (case hdst => rfl); (case hd => rfl); (all_goals (intro h; first | (replace H := ite_pos_ h H) | (replace H := ite_neg_ h H) | (replace H := dec_pos h H) | (replace H := dec_neg h H) | (replace H := dec_t h H) | (replace H := dec_f h H) | (replace H := beq_pos h H) | (replace H := beq_neg h H) | (replace H := beq_tt h H) | (replace H := beq_ff h H) | (replace H := ite_pos_ (Decidable.not_not.1 h) H) | (replace H := beq_pos (Decidable.not_not.1 h) H) | (replace H := beq_tt (Decidable.not_not.1 h) H) | ((try simp only [rd_T47, rdOf] at h); (try simp only [rd_T47, rdOf] at H); (rw [decide_eq_true h] at H)) | ((try simp only [rd_T47, rdOf] at h); (try simp only [rd_T47, rdOf] at H); (rw [decide_eq_false h] at H)) | ((try simp only [rd_T47, rdOf] at h); (try simp only [rd_T47, rdOf] at H); (rw [beq_t h] at H)) | ((try simp only [rd_T47, rdOf] at h); (try simp only [rd_T47, rdOf] at H); (rw [beq_f h] at H)) | ((try simp only [rd_T47, rdOf] at h); (try simp only [rd_T47, rdOf] at H); (rw [bne_t h] at H)) | ((try simp only [rd_T47, rdOf] at h); (try simp only [rd_T47, rdOf] at H); (rw [bne_f h] at H)) | ((try simp only [rd_T47, rdOf] at h); (try simp only [rd_T47, rdOf] at H); (rw [beq_t (Decidable.not_not.1 h)] at H)) | ((try simp only [rd_T47, rdOf] at h); (try simp only [rd_T47, rdOf] at H); (rw [bne_f (Decidable.not_not.1 h)] at H)) | ((try simp only [rd_T47, rdOf] at h); (try simp only [rd_T47, rdOf] at H); (rw [if_pos h] at H)) | ((try simp only [rd_T47, rdOf] at h); (try simp only [rd_T47, rdOf] at H); (rw [if_neg h] at H)) | contradiction | skip)))
    | ((with_reducible apply ROps.val); (case hop => exact valX); (case hw => rfl); (case hdst => rfl); (case hd => rfl))
    | ((with_reducible apply ROps.idx); (case hop => rfl); (case hx => rfl); (case hi => rfl); (case he => rfl); (case hw => rfl); (case hdst => rfl); (case hd => rfl); (case h0 => first | assumption | omega); (case h1 => first | assumption | omega))
    | ((with_reducible apply ROps.alloc); (case hop => rfl); (all_goals try rfl))
    | ((with_reducible apply ROps.lit); (case hop => rfl); (case hti => rfl); (case hsz => rfl); (case hl => rfl); (case hrf => rfl); (all_goals try rfl))
    | ((with_reducible apply ROps.app); (case hop => rfl); (case hti => rfl); (case hsz => rfl); (case hs => rfl); (case hR => rfl); (case hx => rfl); (case hb => constructor <;> ((try simp only [maxLen, List.length_nil, List.length_cons, List.length_append] at *); omega)); (all_goals try rfl))
    | ((with_reducible apply ROps.appN); (case hop => rfl); (case hti => rfl); (case hsz => rfl); (case hs => rfl); (case hx => rfl); (case hb => constructor <;> ((try simp only [maxLen, List.length_nil, List.length_cons, List.length_append] at *); omega)); (all_goals try rfl))
    | ((with_reducible have hB : (table_good.f _ _).bind _ = some _ := H); clear hB; (replace H := bind_some' H); (obtain ⟨t_, H1, H⟩ := H); (try dsimp only at H); (with_reducible apply ROps.call); (case hop => rfl); (case hc => exact table_good.ok H1); (case ha => exact argsX); (case hw => rfl); (case hdst => rfl); (case hd => rfl))
    | ((with_reducible apply Runs.loopK2 ((fun i0 i1 i2 => fun kk (v0_5 : List (S47)) (v0_11 : Int) => table_Of.l0 kk i0 v0_5 i1 i2 v0_11) _ _ _) [1, 9, 10] [] (fun b v0_5 v0_11 => [(5, .own (b + 0) (v0_5).length 4 (rowsE eS47 z47 v0_5)), (11, .imm (.int .i64 v0_11))]) (fun v0_5 v0_11 => [.arr 47 4 (v0_5).length]) _ _ _ [_] H); (case h0 => intros; rfl); (any_goals (clear H; intro k0 hk0 ih0 v0_5 v0_11 H; replace H : table_Of.l0 (k0 + 1) _ v0_5 _ _ v0_11 = some _ := H; rw [table_Of.l0] at H)))
    | (with_reducible apply ih0 _ _ _ [_] _ _ (by omega) H)
    | ((with_reducible apply Runs.retP tysOK); (case hrs => rfl); (case h => rfl); (case hr => (cases H; exact refX)); (case hx => rfl))
    | exact leRX)
end Go.Proofs.Ytdcabfonjmeajaa.PAlloc
set_option linter.unusedVariables false
set_option linter.unusedSimpArgs false
namespace Go.Proofs.Ytdcabfonjmeajaa.PAlloc
open Go.RowKit Go.Proofs.YtdcabfonjmeajaaW.PrintWords Go.Proofs.YtdcabfonjmeajaaW.PrintLast Go.Proofs.YtdcabfonjmeajaaW.PrintMore Go.Proofs.Ytdcabfonjmeajaa.Abs
/-! ### table_Holds: function 54 -/
def table_Holds.f (a0_0 : Int) (a0_1 : Int) (a0_2 : Int) (a0_3 : ByteArray) (a1 : Int) : Option (Bool) := if a0_1 = 1 then (some (decide (a1 < a0_2))) else (some false)
noncomputable def table_Holds.cx : Cx := ⟨Try.prog, tys, glo, 14, Try.f54, [.tmp 4]⟩
set_option maxHeartbeats 16000000 in
set_option maxRecDepth 100000 in
theorem table_Holds.ok {a0_0 : Int} {a0_1 : Int} {a0_2 : Int} {a0_3 : ByteArray} {a1 : Int} {r0 : Bool} (H : table_Holds.f a0_0 a0_1 a0_2 a0_3 a1 = some r0) : CallOK Try.prog glo 54 [.agg [.imm (.int .i64 a0_0), .imm (.int .i64 a0_1), .imm (.int .i64 a0_2), .imm (.string a0_3)], .imm (.int .i64 a1)] (.imm (.bool r0)) := by
  unfold table_Holds.f at H
  refine CallOK.of (c := table_Holds.cx) Try.func54 (show (table_Holds.cx).fn.body = some _ from rfl) rfl rfl (Nat.le_of_ble_eq_true rfl) ?_
  repeat' (first
    | ((with_reducible replace H := some_ite H); obtain ⟨_, H⟩ := H)
    | (with_reducible replace H := true_ite H)
    | (with_reducible replace H := false_ite H)
    | ((with_reducible have hb := bool_ite H); clear H; rcases hb with ⟨e_, H⟩ | ⟨e_, H⟩ <;> subst e_)
    | ((with_reducible apply ROps.pure); (case hop => rfl); (case hw => rfl); (case hdst => rfl); (case hd => rfl))
    | (with_reducible apply ROps.nil)
    | (with_reducible apply Runs.seq)
    | (with_reducible apply Runs.region tysOK)
    | (with_reducible apply Runs.scope)
    | (with_reducible apply Runs.inScope)
    | (with_reducible apply Runs.label)
    | ((with_reducible apply ROps.cmp); (case hop => exact cmpX); (case hw => rfl); (case hdst => rfl); (case hd => rfl); (all_goals (intro h; first | (replace H := ite_pos_ h H) | (replace H := ite_neg_ h H) | (replace H := dec_pos h H) | (replace H := dec_neg h H) | (replace H := dec_t h H) | (replace H := dec_f h H) | (replace H := beq_pos h H) | (replace H := beq_neg h H) | (replace H := beq_tt h H) | (replace H := beq_ff h H) | (replace H := ite_pos_ (Decidable.not_not.1 h) H) | (replace H := beq_pos (Decidable.not_not.1 h) H) | (replace H := beq_tt (Decidable.not_not.1 h) H) | ((try simp only [rdOf] at h); (try simp only [rdOf] at H); (rw [decide_eq_true h] at H)) | ((try simp only [rdOf] at h); (try simp only [rdOf] at H); (rw [decide_eq_false h] at H)) | ((try simp only [rdOf] at h); (try simp only [rdOf] at H); (rw [beq_t h] at H)) | ((try simp only [rdOf] at h); (try simp only [rdOf] at H); (rw [beq_f h] at H)) | ((try simp only [rdOf] at h); (try simp only [rdOf] at H); (rw [bne_t h] at H)) | ((try simp only [rdOf] at h); (try simp only [rdOf] at H); (rw [bne_f h] at H)) | ((try simp only [rdOf] at h); (try simp only [rdOf] at H); (rw [beq_t (Decidable.not_not.1 h)] at H)) | ((try simp only [rdOf] at h); (try simp only [rdOf] at H); (rw [bne_f (Decidable.not_not.1 h)] at H)) | ((try simp only [rdOf] at h); (try simp only [rdOf] at H); (rw [if_pos h] at H)) | ((try simp only [rdOf] at h); (try simp only [rdOf] at H); (rw [if_neg h] at H)) | contradiction | skip)))
    | ((with_reducible apply ROps.val); (case hop => exact valX); (case hw => rfl); (case hdst => rfl); (case hd => rfl))
    | ((with_reducible apply ROps.box); (case hop => rfl); (case hx => rfl); (case hrf => rfl); (all_goals try rfl))
    | ((with_reducible apply ROps.off); (case hw => rfl); (case hdst => rfl); (case hd => rfl))
    | ((with_reducible apply Runs.retP tysOK); (case hrs => rfl); (case h => rfl); (case hr => (cases H; exact refX)); (case hx => rfl))
    | exact leRX)
end Go.Proofs.Ytdcabfonjmeajaa.PAlloc
set_option linter.unusedVariables false
set_option linter.unusedSimpArgs false
namespace Go.Proofs.Ytdcabfonjmeajaa.PAlloc
open Go.RowKit Go.Proofs.YtdcabfonjmeajaaW.PrintWords Go.Proofs.YtdcabfonjmeajaaW.PrintLast Go.Proofs.YtdcabfonjmeajaaW.PrintMore Go.Proofs.Ytdcabfonjmeajaa.Abs
/-! ### conf_Find: function 24 -/
def conf_Find.l0 : Nat → Int → List (S66) → Int → Int → Option (Int × Int × Bool)
  | 0, _, _, _, _ => none
  | k + 1, x1, x10, x11, x12 => if x12 < x11 then (if 0 ≤ x12 then (if x12 < (x10.length : Int) then ((addr_Has.f ((rd_T66 x10 x12).f2.f0) ((rd_T66 x10 x12).f2.f1) x1).bind fun t262 => (if t262 = true then (some ((rd_T66 x10 x12).f0, (rd_T66 x10 x12).f1, true)) else (conf_Find.l0 k x1 x10 x11 (wrap64 (x12 + 1))))) else (none)) else (none)) else (some (0, 0, false))
def conf_Find.f (k : Nat) (a0_0 : Int) (a0_1 : Int) (l0_2 : List (S41)) (a1 : Int) : Option (Int × Int × Bool) := (conf_right.f k a0_0 a0_1 l0_2).bind fun t257 => (conf_Find.l0 k a1 t257 (t257.length : Int) 0)
noncomputable def conf_Find.cx : Cx := ⟨Try.prog, tys, glo, 29, Try.f24, [.tmp 4, .tmp 5, .tmp 6]⟩
set_option maxHeartbeats 16000000 in
set_option maxRecDepth 100000 in
theorem conf_Find.ok {k : Nat} {a0_0 : Int} {a0_1 : Int} {l0_2 : List (S41)} {a1 : Int} {r0 : Int} {r1 : Int} {r2 : Bool} (H : conf_Find.f k a0_0 a0_1 l0_2 a1 = some (r0, r1, r2)) : CallOK Try.prog glo 24 [.agg [.imm (.int .i64 a0_0), .imm (.int .i64 a0_1), vS41 l0_2], .imm (.int .i64 a1)] (.tup [.imm (.int .i64 r0), .imm (.int .i64 r1), .imm (.bool r2)]) := by
  unfold conf_Find.f at H
  refine CallOK.of (c := conf_Find.cx) Try.func24 (show (conf_Find.cx).fn.body = some _ from rfl) rfl rfl (Nat.le_of_ble_eq_true rfl) ?_
  repeat' (first
    | ((with_reducible replace H := some_ite H); obtain ⟨_, H⟩ := H)
    | (with_reducible replace H := true_ite H)
    | (with_reducible replace H := false_ite H)
    | ((with_reducible have hb := bool_ite H); clear H; rcases hb with ⟨e_, H⟩ | ⟨e_, H⟩ <;> subst e_)
    | ((first | with_reducible apply ROps.pure | with_reducible apply DOps.pure); (case hop => rfl); (case hw => rfl); (case hdst => rfl); (case hd => rfl))
    | (first | with_reducible apply ROps.nil | with_reducible apply DOps.nil)
    | (with_reducible apply Runs.seq)
    | (with_reducible apply Runs.region tysOK)
    | ((with_reducible apply Runs.drawn tysOK mixed); (case hB => kernel_rfl))
    | (with_reducible apply Runs.block)
    | (with_reducible apply Runs.skip)
    | (with_reducible apply Runs.inBlock)
    | (with_reducible apply Runs.scope)
    | (with_reducible apply Runs.inScope)
    | (with_reducible apply Runs.label)
    | ((with_reducible apply Runs.condT); (case ho => rfl))
    | ((with_reducible apply Runs.condF); (case ho => rfl))
    | ((with_reducible apply Runs.exit); (case he => rfl))
    | ((with_reducible apply ROps.store); (case hop => rfl); (all_goals try rfl))
    | ((first | with_reducible apply ROps.cmp | with_reducible apply DOps.cmp); (case hop => exact cmpX); (case hw => rfl); (case hdst => rfl); (case hd => rfl); (all_goals (intro h; first | (replace H := ite_pos_ h H) | (replace H := ite_neg_ h H) | (replace H := dec_pos h H) | (replace H := dec_neg h H) | (replace H := dec_t h H) | (replace H := dec_f h H) | (replace H := ite_pos_ (Decidable.not_not.1 h) H) | ((try simp only [rd_T66, rdOf] at h); (try simp only [rd_T66, rdOf] at H); (rw [decide_eq_true h] at H)) | ((try simp only [rd_T66, rdOf] at h); (try simp only [rd_T66, rdOf] at H); (rw [decide_eq_false h] at H)) | ((try simp only [rd_T66, rdOf] at h); (try simp only [rd_T66, rdOf] at H); (rw [if_pos h] at H)) | ((try simp only [rd_T66, rdOf] at h); (try simp only [rd_T66, rdOf] at H); (rw [if_neg h] at H)) | contradiction | skip)))
    | ((first | with_reducible apply ROps.val | with_reducible apply DOps.val); (case hop => exact valX); (case hw => rfl); (case hdst => rfl); (case hd => rfl))
    | ((first | with_reducible apply ROps.idx | with_reducible apply DOps.idx); (case hop => rfl); (case hx => rfl); (case hi => rfl); (case he => rfl); (case hw => rfl); (case hdst => rfl); (case hd => rfl); (case h0 => first | assumption | omega); (case h1 => first | assumption | omega))
    | ((with_reducible apply ROps.alloc); (case hop => rfl); (all_goals try rfl))
    | ((with_reducible apply ROps.box); (case hop => rfl); (case hx => rfl); (case hrf => rfl); (all_goals try rfl))
    | ((with_reducible have hB : (conf_right.f _ _ _ _).bind _ = some _ := H); clear hB; (replace H := bind_some' H); (obtain ⟨t_, H1, H⟩ := H); (try dsimp only at H); (first | with_reducible apply ROps.call | with_reducible apply DOps.call); (case hop => rfl); (case hc => exact conf_right.ok H1); (case ha => exact argsX); (case hw => rfl); (case hdst => rfl); (case hd => rfl))
    | ((with_reducible have hB : (addr_Has.f _ _ _).bind _ = some _ := H); clear hB; (replace H := bind_some' H); (obtain ⟨t_, H1, H⟩ := H); (try dsimp only at H); (first | with_reducible apply ROps.call | with_reducible apply DOps.call); (case hop => rfl); (case hc => exact addr_Has.ok H1); (case ha => exact argsX); (case hw => rfl); (case hdst => rfl); (case hd => rfl))
    | ((with_reducible apply Runs.loopK1 ((fun i0 i1 i2 => fun kk (v0_12 : Int) => conf_Find.l0 kk i0 i1 i2 v0_12) _ _ _) [1, 10, 11] [] (fun b v0_12 => [(12, .imm (.int .i64 v0_12))]) (fun v0_12 => []) _ _ [] H); (case h0 => intros; rfl); (any_goals (clear H; intro k0 hk0 ih0 v0_12 H; replace H : conf_Find.l0 (k0 + 1) _ _ _ v0_12 = some _ := H; rw [conf_Find.l0] at H)))
    | (with_reducible apply ih0 _ _ [] _ _ (by omega) H)
    | ((with_reducible apply Runs.retP tysOK); (case hrs => rfl); (case h => rfl); (case hr => (cases H; exact refX)); (case hx => rfl))
    | exact leRX)
end Go.Proofs.Ytdcabfonjmeajaa.PAlloc
set_option linter.unusedVariables false
set_option linter.unusedSimpArgs false
namespace Go.Proofs.Ytdcabfonjmeajaa.PAlloc
open Go.RowKit Go.Proofs.YtdcabfonjmeajaaW.PrintWords Go.Proofs.YtdcabfonjmeajaaW.PrintLast Go.Proofs.YtdcabfonjmeajaaW.PrintMore Go.Proofs.Ytdcabfonjmeajaa.Abs
/-! ### alloc_in: function 55 -/
def alloc_in.f (k : Nat) (a0_0 : Int) (a0_1 : Int) (l0_2 : List (S41)) (a1 : Int) (a2 : Int) : Option (Bool) := (conf_Find.f k a0_0 a0_1 l0_2 a2).bind fun bt264 => (if bt264.2.2 = true then (some (bt264.1 == a1)) else (some false))
noncomputable def alloc_in.cx : Cx := ⟨Try.prog, tys, glo, 23, Try.f55, [.tmp 6]⟩
set_option maxHeartbeats 16000000 in
set_option maxRecDepth 100000 in
theorem alloc_in.ok {k : Nat} {a0_0 : Int} {a0_1 : Int} {l0_2 : List (S41)} {a1 : Int} {a2 : Int} {r0 : Bool} (H : alloc_in.f k a0_0 a0_1 l0_2 a1 a2 = some r0) : CallOK Try.prog glo 55 [.agg [.imm (.int .i64 a0_0), .imm (.int .i64 a0_1), vS41 l0_2], .imm (.int .i64 a1), .imm (.int .i64 a2)] (.imm (.bool r0)) := by
  unfold alloc_in.f at H
  refine CallOK.of (c := alloc_in.cx) Try.func55 (show (alloc_in.cx).fn.body = some _ from rfl) rfl rfl (Nat.le_of_ble_eq_true rfl) ?_
  repeat' (first
    | ((with_reducible replace H := some_ite H); obtain ⟨_, H⟩ := H)
    | (with_reducible replace H := true_ite H)
    | (with_reducible replace H := false_ite H)
    | ((with_reducible have hb := bool_ite H); clear H; rcases hb with ⟨e_, H⟩ | ⟨e_, H⟩ <;> subst e_)
    | ((with_reducible apply ROps.pure); (case hop => rfl); (case hw => rfl); (case hdst => rfl); (case hd => rfl))
    | (with_reducible apply ROps.nil)
    | (with_reducible apply Runs.seq)
    | (with_reducible apply Runs.region tysOK)
    | (with_reducible apply Runs.scope)
    | (with_reducible apply Runs.inScope)
    | (with_reducible apply Runs.label)
    | ((with_reducible apply ROps.cmp); (case hop => exact cmpX); (case hw => rfl); (case hdst => rfl); (case hd => rfl); (all_goals (intro h; first | (replace H := ite_pos_ h H) | (replace H := ite_neg_ h H) | (replace H := dec_pos h H) | (replace H := dec_neg h H) | (replace H := dec_t h H) | (replace H := dec_f h H) | (replace H := beq_pos h H) | (replace H := beq_neg h H) | (replace H := beq_tt h H) | (replace H := beq_ff h H) | (replace H := ite_pos_ (Decidable.not_not.1 h) H) | (replace H := beq_pos (Decidable.not_not.1 h) H) | (replace H := beq_tt (Decidable.not_not.1 h) H) | ((try simp only [rdOf] at h); (try simp only [rdOf] at H); (rw [decide_eq_true h] at H)) | ((try simp only [rdOf] at h); (try simp only [rdOf] at H); (rw [decide_eq_false h] at H)) | ((try simp only [rdOf] at h); (try simp only [rdOf] at H); (rw [beq_t h] at H)) | ((try simp only [rdOf] at h); (try simp only [rdOf] at H); (rw [beq_f h] at H)) | ((try simp only [rdOf] at h); (try simp only [rdOf] at H); (rw [beq_t (Decidable.not_not.1 h)] at H)) | ((try simp only [rdOf] at h); (try simp only [rdOf] at H); (rw [if_pos h] at H)) | ((try simp only [rdOf] at h); (try simp only [rdOf] at H); (rw [if_neg h] at H)) | contradiction | skip)))
    | ((with_reducible apply ROps.val); (case hop => exact valX); (case hw => rfl); (case hdst => rfl); (case hd => rfl))
    | ((with_reducible apply ROps.box); (case hop => rfl); (case hx => rfl); (case hrf => rfl); (all_goals try rfl))
    | ((with_reducible apply ROps.off); (case hw => rfl); (case hdst => rfl); (case hd => rfl))
    | ((with_reducible have hB : (conf_Find.f _ _ _ _ _).bind _ = some _ := H); clear hB; (replace H := bind_some' H); (obtain ⟨⟨t_0, t_1, t_2⟩, H1, H⟩ := H); (try dsimp only at H); (with_reducible apply ROps.call); (case hop => rfl); (case hc => exact conf_Find.ok H1); (case ha => exact argsX); (case hw => rfl); (case hdst => rfl); (case hd => rfl))
    | ((with_reducible apply Runs.retP tysOK); (case hrs => rfl); (case h => rfl); (case hr => (cases H; exact refX)); (case hx => rfl))
    | exact leRX)
end Go.Proofs.Ytdcabfonjmeajaa.PAlloc
set_option linter.unusedVariables false
set_option linter.unusedSimpArgs false
namespace Go.Proofs.Ytdcabfonjmeajaa.PAlloc
open Go.RowKit Go.Proofs.YtdcabfonjmeajaaW.PrintWords Go.Proofs.YtdcabfonjmeajaaW.PrintLast Go.Proofs.YtdcabfonjmeajaaW.PrintMore Go.Proofs.Ytdcabfonjmeajaa.Abs
/-! ### table_place: function 89 -/
def table_place.l0 : Nat → List (S47) → Int → Int → Int → Option (Int × Bool)
  | 0, _, _, _, _ => none
  | k + 1, x0, x1, x6, x7 => if x6 < x7 then (if 0 ≤ (wrap64 (Int.tdiv (wrap64 (x6 + x7)) 2)) then (if (wrap64 (Int.tdiv (wrap64 (x6 + x7)) 2)) < (x0.length : Int) then (if ((rd_T47 x0 (wrap64 (Int.tdiv (wrap64 (x6 + x7)) 2))).f0) = x1 then (some (wrap64 (Int.tdiv (wrap64 (x6 + x7)) 2), (((rd_T47 x0 (wrap64 (Int.tdiv (wrap64 (x6 + x7)) 2))).f0) == x1))) else (if ((rd_T47 x0 (wrap64 (Int.tdiv (wrap64 (x6 + x7)) 2))).f0) < x1 then (table_place.l0 k x0 x1 (wrap64 ((wrap64 (Int.tdiv (wrap64 (x6 + x7)) 2)) + 1)) x7) else (table_place.l0 k x0 x1 x6 (wrap64 (Int.tdiv (wrap64 (x6 + x7)) 2))))) else (none)) else (none)) else (if x6 < (x0.length : Int) then (if 0 ≤ x6 then (some (x6, (((rd_T47 x0 x6).f0) == x1))) else (none)) else (some (x6, false)))
def table_place.f (k : Nat) (l0 : List (S47)) (a1 : Int) : Option (Int × Bool) := table_place.l0 k l0 a1 0 (l0.length : Int)
noncomputable def table_place.cx : Cx := ⟨Try.prog, tys, glo, 52, Try.f89, [.tmp 4, .tmp 5]⟩
set_option maxHeartbeats 16000000 in
set_option maxRecDepth 100000 in
theorem table_place.ok {k : Nat} {l0 : List (S47)} {a1 : Int} {r0 : Int} {r1 : Bool} (H : table_place.f k l0 a1 = some (r0, r1)) : CallOK Try.prog glo 89 [vS47 l0, .imm (.int .i64 a1)] (.tup [.imm (.int .i64 r0), .imm (.bool r1)]) := by
  unfold table_place.f at H
  refine CallOK.of (c := table_place.cx) Try.func89 (show (table_place.cx).fn.body = some _ from rfl) rfl rfl (Nat.le_of_ble_eq_true rfl) ?_
  repeat' (first
    | ((with_reducible replace H := some_ite H); obtain ⟨_, H⟩ := H)
    | (with_reducible replace H := true_ite H)
    | (with_reducible replace H := false_ite H)
    | ((with_reducible have hb := bool_ite H); clear H; rcases hb with ⟨e_, H⟩ | ⟨e_, H⟩ <;> subst e_)
    | ((first | with_reducible apply ROps.pure | with_reducible apply DOps.pure); (case hop => rfl); (case hw => rfl); (case hdst => rfl); (case hd => rfl))
    | (first | with_reducible apply ROps.nil | with_reducible apply DOps.nil)
    | (with_reducible apply Runs.seq)
    | (with_reducible apply Runs.region tysOK)
    | ((with_reducible apply Runs.drawn tysOK mixed); (case hB => kernel_rfl))
    | (with_reducible apply Runs.block)
    | (with_reducible apply Runs.skip)
    | (with_reducible apply Runs.inBlock)
    | (with_reducible apply Runs.scope)
    | (with_reducible apply Runs.inScope)
    | (with_reducible apply Runs.label)
    | ((with_reducible apply Runs.condT); (case ho => rfl))
    | ((with_reducible apply Runs.condF); (case ho => rfl))
    | ((with_reducible apply Runs.exit); (case he => rfl))
    | ((first | with_reducible apply ROps.cmp | with_reducible apply DOps.cmp); (case hop => exact cmpX); (case hw => rfl); (case hdst => rfl); (case hd => rfl); (all_goals (intro h; first | (replace H := ite_pos_ h H) | (replace H := ite_neg_ h H) | (replace H := dec_pos h H) | (replace H := dec_neg h H) | (replace H := dec_t h H) | (replace H := dec_f h H) | (replace H := beq_pos h H) | (replace H := beq_neg h H) | (replace H := beq_tt h H) | (replace H := beq_ff h H) | (replace H := ite_pos_ (Decidable.not_not.1 h) H) | (replace H := beq_pos (Decidable.not_not.1 h) H) | (replace H := beq_tt (Decidable.not_not.1 h) H) | ((try simp only [rd_T47, rdOf] at h); (try simp only [rd_T47, rdOf] at H); (rw [decide_eq_true h] at H)) | ((try simp only [rd_T47, rdOf] at h); (try simp only [rd_T47, rdOf] at H); (rw [decide_eq_false h] at H)) | ((try simp only [rd_T47, rdOf] at h); (try simp only [rd_T47, rdOf] at H); (rw [beq_t h] at H)) | ((try simp only [rd_T47, rdOf] at h); (try simp only [rd_T47, rdOf] at H); (rw [beq_f h] at H)) | ((try simp only [rd_T47, rdOf] at h); (try simp only [rd_T47, rdOf] at H); (rw [bne_t h] at H)) | ((try simp only [rd_T47, rdOf] at h); (try simp only [rd_T47, rdOf] at H); (rw [bne_f h] at H)) | ((try simp only [rd_T47, rdOf] at h); (try simp only [rd_T47, rdOf] at H); (rw [beq_t (Decidable.not_not.1 h)] at H)) | ((try simp only [rd_T47, rdOf] at h); (try simp only [rd_T47, rdOf] at H); (rw [bne_f (Decidable.not_not.1 h)] at H)) | ((try simp only [rd_T47, rdOf] at h); (try simp only [rd_T47, rdOf] at H); (rw [if_pos h] at H)) | ((try simp only [rd_T47, rdOf] at h); (try simp only [rd_T47, rdOf] at H); (rw [if_neg h] at H)) | contradiction | skip)))
    | ((first | with_reducible apply ROps.val | with_reducible apply DOps.val); (case hop => exact valX); (case hw => rfl); (case hdst => rfl); (case hd => rfl))
    | ((first | with_reducible apply ROps.idx | with_reducible apply DOps.idx); (case hop => rfl); (case hx => rfl); (case hi => rfl); (case he => rfl); (case hw => rfl); (case hdst => rfl); (case hd => rfl); (case h0 => first | assumption | omega); (case h1 => first | assumption | omega))
    | ((first | with_reducible apply ROps.off | with_reducible apply DOps.off); (case hw => rfl); (case hdst => rfl); (case hd => rfl))
    | ((with_reducible apply Runs.loopK2 ((fun i0 i1 => fun kk (v0_6 : Int) (v0_7 : Int) => table_place.l0 kk i0 i1 v0_6 v0_7) _ _) [0, 1] [] (fun b v0_6 v0_7 => [(6, .imm (.int .i64 v0_6)), (7, .imm (.int .i64 v0_7))]) (fun v0_6 v0_7 => []) _ _ _ [] H); (case h0 => intros; rfl); (any_goals (clear H; intro k0 hk0 ih0 v0_6 v0_7 H; replace H : table_place.l0 (k0 + 1) _ _ v0_6 v0_7 = some _ := H; rw [table_place.l0] at H)))
    | (with_reducible apply ih0 _ _ _ [] _ _ (by omega) H)
    | ((with_reducible apply Runs.retP tysOK); (case hrs => rfl); (case h => rfl); (case hr => (cases H; exact refX)); (case hx => rfl))
    | exact leRX)
end Go.Proofs.Ytdcabfonjmeajaa.PAlloc
set_option linter.unusedVariables false
set_option linter.unusedSimpArgs false
namespace Go.Proofs.Ytdcabfonjmeajaa.PAlloc
open Go.RowKit Go.Proofs.YtdcabfonjmeajaaW.PrintWords Go.Proofs.YtdcabfonjmeajaaW.PrintLast Go.Proofs.YtdcabfonjmeajaaW.PrintMore Go.Proofs.Ytdcabfonjmeajaa.Abs
/-! ### table_Get: function 82 -/
def table_Get.f (k : Nat) (l0 : List (S47)) (a1 : Int) : Option (Int × Int × Int × ByteArray × Bool) := (table_good.f k l0).bind fun t272 => ((table_place.f k t272 a1).bind fun bt275 => (if bt275.2 = true then (if 0 ≤ bt275.1 then (if bt275.1 < (t272.length : Int) then (some ((rd_T47 t272 bt275.1).f0, (rd_T47 t272 bt275.1).f1, (rd_T47 t272 bt275.1).f2, (rd_T47 t272 bt275.1).f3, true)) else (none)) else (none)) else (some (0, 0, 0, (⟨#[]⟩ : ByteArray), false))))
noncomputable def table_Get.cx : Cx := ⟨Try.prog, tys, glo, 23, Try.f82, [.cell 4 47, .tmp 5]⟩
set_option maxHeartbeats 16000000 in
set_option maxRecDepth 100000 in
theorem table_Get.ok {k : Nat} {l0 : List (S47)} {a1 : Int} {r0 : Int} {r1 : Int} {r2 : Int} {r3 : ByteArray} {r4 : Bool} (H : table_Get.f k l0 a1 = some (r0, r1, r2, r3, r4)) : CallOK Try.prog glo 82 [vS47 l0, .imm (.int .i64 a1)] (.tup [.agg [.imm (.int .i64 r0), .imm (.int .i64 r1), .imm (.int .i64 r2), .imm (.string r3)], .imm (.bool r4)]) := by
  unfold table_Get.f at H
  refine CallOK.of (c := table_Get.cx) Try.func82 (show (table_Get.cx).fn.body = some _ from rfl) rfl rfl (Nat.le_of_ble_eq_true rfl) ?_
  repeat' (first
    | ((with_reducible replace H := some_ite H); obtain ⟨_, H⟩ := H)
    | (with_reducible replace H := true_ite H)
    | (with_reducible replace H := false_ite H)
    | ((with_reducible have hb := bool_ite H); clear H; rcases hb with ⟨e_, H⟩ | ⟨e_, H⟩ <;> subst e_)
    | ((with_reducible apply ROps.pure); (case hop => rfl); (case hw => rfl); (case hdst => rfl); (case hd => rfl))
    | (with_reducible apply ROps.nil)
    | (with_reducible apply Runs.seq)
    | (with_reducible apply Runs.region tysOK)
    | (with_reducible apply Runs.skip)
    | (with_reducible apply Runs.scope)
    | (with_reducible apply Runs.inScope)
    | (with_reducible apply Runs.label)
    | ((with_reducible apply Runs.condT); (case ho => rfl))
    | ((with_reducible apply Runs.condF); (case ho => rfl))
    | ((with_reducible apply ROps.store); (case hop => rfl); (all_goals try rfl))
    | ((with_reducible apply ROps.idx); (case hop => rfl); (case hx => rfl); (case hi => rfl); (case he => rfl); (case hw => rfl); (case hdst => rfl); (case hd => rfl); (case h0 => first | assumption | omega); (case h1 => first | assumption | omega))
    | ((with_reducible apply ROps.alloc); (case hop => rfl); (all_goals try rfl))
    | ((with_reducible have hB : (table_good.f _ _).bind _ = some _ := H); clear hB; (replace H := bind_some' H); (obtain ⟨t_, H1, H⟩ := H); (try dsimp only at H); (with_reducible apply ROps.call); (case hop => rfl); (case hc => exact table_good.ok H1); (case ha => exact argsX); (case hw => rfl); (case hdst => rfl); (case hd => rfl))
    | ((with_reducible have hB : (table_place.f _ _ _).bind _ = some _ := H); clear hB; (replace H := bind_some' H); (obtain ⟨⟨t_0, t_1⟩, H1, H⟩ := H); (try dsimp only at H); (with_reducible apply ROps.call); (case hop => rfl); (case hc => exact table_place.ok H1); (case ha => exact argsX); (case hw => rfl); (case hdst => rfl); (case hd => rfl))
    | ((with_reducible apply Runs.retP tysOK); (case hrs => rfl); (case h => rfl); (case hr => (cases H; exact refX)); (case hx => rfl))
    | exact leRX)
end Go.Proofs.Ytdcabfonjmeajaa.PAlloc
set_option linter.unusedVariables false
set_option linter.unusedSimpArgs false
namespace Go.Proofs.Ytdcabfonjmeajaa.PAlloc
open Go.RowKit Go.Proofs.YtdcabfonjmeajaaW.PrintWords Go.Proofs.YtdcabfonjmeajaaW.PrintLast Go.Proofs.YtdcabfonjmeajaaW.PrintMore Go.Proofs.Ytdcabfonjmeajaa.Abs
/-! ### table_Rests: function 83 -/
def table_Rests.f (a0_0 : Int) (a0_1 : Int) (a0_2 : Int) (a0_3 : ByteArray) (a1 : Int) : Option (Bool) := if a0_1 = 3 then (some (decide (a1 < a0_2))) else (some false)
noncomputable def table_Rests.cx : Cx := ⟨Try.prog, tys, glo, 14, Try.f83, [.tmp 4]⟩
set_option maxHeartbeats 16000000 in
set_option maxRecDepth 100000 in
theorem table_Rests.ok {a0_0 : Int} {a0_1 : Int} {a0_2 : Int} {a0_3 : ByteArray} {a1 : Int} {r0 : Bool} (H : table_Rests.f a0_0 a0_1 a0_2 a0_3 a1 = some r0) : CallOK Try.prog glo 83 [.agg [.imm (.int .i64 a0_0), .imm (.int .i64 a0_1), .imm (.int .i64 a0_2), .imm (.string a0_3)], .imm (.int .i64 a1)] (.imm (.bool r0)) := by
  unfold table_Rests.f at H
  refine CallOK.of (c := table_Rests.cx) Try.func83 (show (table_Rests.cx).fn.body = some _ from rfl) rfl rfl (Nat.le_of_ble_eq_true rfl) ?_
  repeat' (first
    | ((with_reducible replace H := some_ite H); obtain ⟨_, H⟩ := H)
    | (with_reducible replace H := true_ite H)
    | (with_reducible replace H := false_ite H)
    | ((with_reducible have hb := bool_ite H); clear H; rcases hb with ⟨e_, H⟩ | ⟨e_, H⟩ <;> subst e_)
    | ((with_reducible apply ROps.pure); (case hop => rfl); (case hw => rfl); (case hdst => rfl); (case hd => rfl))
    | (with_reducible apply ROps.nil)
    | (with_reducible apply Runs.seq)
    | (with_reducible apply Runs.region tysOK)
    | (with_reducible apply Runs.scope)
    | (with_reducible apply Runs.inScope)
    | (with_reducible apply Runs.label)
    | ((with_reducible apply ROps.cmp); (case hop => exact cmpX); (case hw => rfl); (case hdst => rfl); (case hd => rfl); (all_goals (intro h; first | (replace H := ite_pos_ h H) | (replace H := ite_neg_ h H) | (replace H := dec_pos h H) | (replace H := dec_neg h H) | (replace H := dec_t h H) | (replace H := dec_f h H) | (replace H := beq_pos h H) | (replace H := beq_neg h H) | (replace H := beq_tt h H) | (replace H := beq_ff h H) | (replace H := ite_pos_ (Decidable.not_not.1 h) H) | (replace H := beq_pos (Decidable.not_not.1 h) H) | (replace H := beq_tt (Decidable.not_not.1 h) H) | ((try simp only [rdOf] at h); (try simp only [rdOf] at H); (rw [decide_eq_true h] at H)) | ((try simp only [rdOf] at h); (try simp only [rdOf] at H); (rw [decide_eq_false h] at H)) | ((try simp only [rdOf] at h); (try simp only [rdOf] at H); (rw [beq_t h] at H)) | ((try simp only [rdOf] at h); (try simp only [rdOf] at H); (rw [beq_f h] at H)) | ((try simp only [rdOf] at h); (try simp only [rdOf] at H); (rw [bne_t h] at H)) | ((try simp only [rdOf] at h); (try simp only [rdOf] at H); (rw [bne_f h] at H)) | ((try simp only [rdOf] at h); (try simp only [rdOf] at H); (rw [beq_t (Decidable.not_not.1 h)] at H)) | ((try simp only [rdOf] at h); (try simp only [rdOf] at H); (rw [bne_f (Decidable.not_not.1 h)] at H)) | ((try simp only [rdOf] at h); (try simp only [rdOf] at H); (rw [if_pos h] at H)) | ((try simp only [rdOf] at h); (try simp only [rdOf] at H); (rw [if_neg h] at H)) | contradiction | skip)))
    | ((with_reducible apply ROps.val); (case hop => exact valX); (case hw => rfl); (case hdst => rfl); (case hd => rfl))
    | ((with_reducible apply ROps.box); (case hop => rfl); (case hx => rfl); (case hrf => rfl); (all_goals try rfl))
    | ((with_reducible apply ROps.off); (case hw => rfl); (case hdst => rfl); (case hd => rfl))
    | ((with_reducible apply Runs.retP tysOK); (case hrs => rfl); (case h => rfl); (case hr => (cases H; exact refX)); (case hx => rfl))
    | exact leRX)
end Go.Proofs.Ytdcabfonjmeajaa.PAlloc
set_option linter.unusedVariables false
set_option linter.unusedSimpArgs false
namespace Go.Proofs.Ytdcabfonjmeajaa.PAlloc
open Go.RowKit Go.Proofs.YtdcabfonjmeajaaW.PrintWords Go.Proofs.YtdcabfonjmeajaaW.PrintLast Go.Proofs.YtdcabfonjmeajaaW.PrintMore Go.Proofs.Ytdcabfonjmeajaa.Abs
/-! ### table_Free: function 56 -/
def table_Free.f (k : Nat) (l0 : List (S47)) (a1 : Int) (a2 : ByteArray) (a3 : Int) : Option (Bool) := (table_Get.f k l0 a1).bind fun bt279 => (if bt279.2.2.2.2 = true then ((table_Rests.f bt279.1 bt279.2.1 bt279.2.2.1 bt279.2.2.2.1 a3).bind fun t285 => (if t285 = true then (some false) else ((table_Holds.f bt279.1 bt279.2.1 bt279.2.2.1 bt279.2.2.2.1 a3).bind fun t286 => (if t286 = true then (some (bt279.2.2.2.1.toList == a2.toList)) else (some true))))) else (some true))
noncomputable def table_Free.cx : Cx := ⟨Try.prog, tys, glo, 37, Try.f56, [.tmp 8]⟩
set_option maxHeartbeats 16000000 in
set_option maxRecDepth 100000 in
theorem table_Free.ok {k : Nat} {l0 : List (S47)} {a1 : Int} {a2 : ByteArray} {a3 : Int} {r0 : Bool} (H : table_Free.f k l0 a1 a2 a3 = some r0) : CallOK Try.prog glo 56 [vS47 l0, .imm (.int .i64 a1), .imm (.string a2), .imm (.int .i64 a3)] (.imm (.bool r0)) := by
  unfold table_Free.f at H
  refine CallOK.of (c := table_Free.cx) Try.func56 (show (table_Free.cx).fn.body = some _ from rfl) rfl rfl (Nat.le_of_ble_eq_true rfl) ?_
  repeat' (first
    | ((with_reducible replace H := some_ite H); obtain ⟨_, H⟩ := H)
    | (with_reducible replace H := some_bind_ H)
    | (with_reducible replace H := true_ite H)
    | (with_reducible replace H := false_ite H)
    | ((with_reducible have hb := bool_ite H); clear H; rcases hb with ⟨e_, H⟩ | ⟨e_, H⟩ <;> subst e_)
    | ((with_reducible apply ROps.pure); (case hop => rfl); (case hw => rfl); (case hdst => rfl); (case hd => rfl))
    | (with_reducible apply ROps.nil)
    | (with_reducible apply Runs.seq)
    | (with_reducible apply Runs.region tysOK)
    | (with_reducible apply Runs.scope)
    | (with_reducible apply Runs.inScope)
    | (with_reducible apply Runs.label)
    | ((with_reducible apply ROps.store); (case hop => rfl); (all_goals try rfl))
    | ((with_reducible apply ROps.cmp); (case hop => exact cmpX); (case hw => rfl); (case hdst => rfl); (case hd => rfl); (all_goals (intro h; first | (replace H := ite_pos_ h H) | (replace H := ite_neg_ h H) | (replace H := dec_pos h H) | (replace H := dec_neg h H) | (replace H := dec_t h H) | (replace H := dec_f h H) | (replace H := beq_pos h H) | (replace H := beq_neg h H) | (replace H := beq_tt h H) | (replace H := beq_ff h H) | (replace H := ite_pos_ (Decidable.not_not.1 h) H) | (replace H := beq_pos (Decidable.not_not.1 h) H) | (replace H := beq_tt (Decidable.not_not.1 h) H) | ((try simp only [rdOf] at h); (try simp only [rdOf] at H); (rw [decide_eq_true h] at H)) | ((try simp only [rdOf] at h); (try simp only [rdOf] at H); (rw [decide_eq_false h] at H)) | ((try simp only [rdOf] at h); (try simp only [rdOf] at H); (rw [beq_t h] at H)) | ((try simp only [rdOf] at h); (try simp only [rdOf] at H); (rw [beq_f h] at H)) | ((try simp only [rdOf] at h); (try simp only [rdOf] at H); (rw [beq_t (Decidable.not_not.1 h)] at H)) | ((try simp only [rdOf] at h); (try simp only [rdOf] at H); (rw [if_pos h] at H)) | ((try simp only [rdOf] at h); (try simp only [rdOf] at H); (rw [if_neg h] at H)) | contradiction | skip)))
    | ((with_reducible apply ROps.val); (case hop => exact valX); (case hw => rfl); (case hdst => rfl); (case hd => rfl))
    | ((with_reducible apply ROps.alloc); (case hop => rfl); (all_goals try rfl))
    | ((with_reducible apply ROps.off); (case hw => rfl); (case hdst => rfl); (case hd => rfl))
    | ((with_reducible have hB : (table_Holds.f _ _ _ _ _).bind _ = some _ := H); clear hB; (replace H := bind_some' H); (obtain ⟨t_, H1, H⟩ := H); (try dsimp only at H); (with_reducible apply ROps.call); (case hop => rfl); (case hc => exact table_Holds.ok H1); (case ha => exact argsX); (case hw => rfl); (case hdst => rfl); (case hd => rfl))
    | ((with_reducible have hB : (table_Get.f _ _ _).bind _ = some _ := H); clear hB; (replace H := bind_some' H); (obtain ⟨⟨t_0, t_1, t_2, t_3, t_4⟩, H1, H⟩ := H); (try dsimp only at H); (with_reducible apply ROps.call); (case hop => rfl); (case hc => exact table_Get.ok H1); (case ha => exact argsX); (case hw => rfl); (case hdst => rfl); (case hd => rfl))
    | ((with_reducible have hB : (table_Rests.f _ _ _ _ _).bind _ = some _ := H); clear hB; (replace H := bind_some' H); (obtain ⟨t_, H1, H⟩ := H); (try dsimp only at H); (with_reducible apply ROps.call); (case hop => rfl); (case hc => exact table_Rests.ok H1); (case ha => exact argsX); (case hw => rfl); (case hdst => rfl); (case hd => rfl))
    | ((with_reducible apply Runs.retP tysOK); (case hrs => rfl); (case h => rfl); (case hr => (cases H; exact refX)); (case hx => rfl))
    | exact leRX)
end Go.Proofs.Ytdcabfonjmeajaa.PAlloc
set_option linter.unusedVariables false
set_option linter.unusedSimpArgs false
namespace Go.Proofs.Ytdcabfonjmeajaa.PAlloc
open Go.RowKit Go.Proofs.YtdcabfonjmeajaaW.PrintWords Go.Proofs.YtdcabfonjmeajaaW.PrintLast Go.Proofs.YtdcabfonjmeajaaW.PrintMore Go.Proofs.Ytdcabfonjmeajaa.Abs
/-! ### alloc_May: function 30 -/
mutual
def alloc_May.j1 : Nat → List (S47) → Int → ByteArray → Int → Int → Int → Int → List (S41) → Option (Bool)
  | 0, _, _, _, _, _, _, _, _ => none
  | k + 1, x1, x2, x3, x4, x5, x288000, x288001, x288002 => (table_Of.f k x1 x3).bind fun t294 => (alloc_May.l0 k x1 x2 x3 x4 x5 t294 (t294.length : Int) 0 x288000 x288001 x288002)
def alloc_May.l0 : Nat → List (S47) → Int → ByteArray → Int → Int → List (S47) → Int → Int → Int → Int → List (S41) → Option (Bool)
  | 0, _, _, _, _, _, _, _, _, _, _, _ => none
  | k + 1, x1, x2, x3, x4, x5, x61, x62, x63, x288000, x288001, x288002 => if x63 < x62 then (if 0 ≤ x63 then (if x63 < (x61.length : Int) then (if ((rd_T47 x61 x63).f0) = x4 then (alloc_May.l0 k x1 x2 x3 x4 x5 x61 x62 (wrap64 (x63 + 1)) x288000 x288001 x288002) else ((table_Holds.f ((rd_T47 x61 x63).f0) ((rd_T47 x61 x63).f1) ((rd_T47 x61 x63).f2) ((rd_T47 x61 x63).f3) x5).bind fun t300 => (if t300 = true then ((alloc_in.f k x288000 x288001 x288002 x2 ((rd_T47 x61 x63).f0)).bind fun t301 => (if t301 = true then (some false) else (alloc_May.l0 k x1 x2 x3 x4 x5 x61 x62 (wrap64 (x63 + 1)) x288000 x288001 x288002))) else (alloc_May.l0 k x1 x2 x3 x4 x5 x61 x62 (wrap64 (x63 + 1)) x288000 x288001 x288002)))) else (none)) else (none)) else ((table_Free.f k x1 x4 x3 x5).bind fun t297 => (some t297))
def alloc_May.j0 : Nat → List (S47) → Int → ByteArray → Int → Int → ByteArray → Bool → Bool → Int → Int → List (S41) → Option (Bool)
  | 0, _, _, _, _, _, _, _, _, _, _, _ => none
  | k + 1, x1, x2, x3, x4, x5, x15, x16, x38, x288000, x288001, x288002 => if x38 = true then (alloc_May.j1 k x1 x2 x3 x4 x5 x288000 x288001 x288002) else ((conf_InPool.f k x288000 x288001 x288002 x2 x4).bind fun t293 => (if t293 = true then (if x16 = true then (if x15.toList = x3.toList then (alloc_May.j1 k x1 x2 x3 x4 x5 x288000 x288001 x288002) else (some false)) else (alloc_May.j1 k x1 x2 x3 x4 x5 x288000 x288001 x288002)) else (some false)))
end
def alloc_May.f (k : Nat) (a0_0 : Int) (a0_1 : Int) (l0_2 : List (S41)) (l1 : List (S47)) (a2 : Int) (a3 : ByteArray) (a4 : Int) (a5 : Int) : Option (Bool) := (alloc_fair.f k a0_0 a0_1 l0_2 l1 a2 a3).bind fun t288 => (if t288 = true then ((conf_KeptFor.f k a0_0 a0_1 l0_2 a2 a3).bind fun bt289 => ((conf_Keeper.f k a0_0 a0_1 l0_2 a4).bind fun bt291 => (if bt289.2 = true then (alloc_May.j0 k l1 a2 a3 a4 a5 bt291.1 bt291.2 (bt289.1 == a4) a0_0 a0_1 l0_2) else (alloc_May.j0 k l1 a2 a3 a4 a5 bt291.1 bt291.2 false a0_0 a0_1 l0_2)))) else (some false))
noncomputable def alloc_May.cx : Cx := ⟨Try.prog, tys, glo, 89, Try.f30, [.tmp 12]⟩
set_option maxHeartbeats 16000000 in
set_option maxRecDepth 100000 in
theorem alloc_May.ok {k : Nat} {a0_0 : Int} {a0_1 : Int} {l0_2 : List (S41)} {l1 : List (S47)} {a2 : Int} {a3 : ByteArray} {a4 : Int} {a5 : Int} {r0 : Bool} (H : alloc_May.f k a0_0 a0_1 l0_2 l1 a2 a3 a4 a5 = some r0) : CallOK Try.prog glo 30 [.agg [.imm (.int .i64 a0_0), .imm (.int .i64 a0_1), vS41 l0_2], vS47 l1, .imm (.int .i64 a2), .imm (.string a3), .imm (.int .i64 a4), .imm (.int .i64 a5)] (.imm (.bool r0)) := by
  unfold alloc_May.f at H
  refine CallOK.of (c := alloc_May.cx) Try.func30 (show (alloc_May.cx).fn.body = some _ from rfl) rfl rfl (Nat.le_of_ble_eq_true rfl) ?_
  repeat' (first
    | ((with_reducible have hJ : alloc_May.j0 k _ _ _ _ _ _ _ _ _ _ _ = some _ := H); clear hJ; (rcases k with _ | k); (rw [alloc_May.j0] at H; cases H); (rw [alloc_May.j0] at H))
    | ((with_reducible have hJ : alloc_May.j0 k0 _ _ _ _ _ _ _ _ _ _ _ = some _ := H); clear hJ; (rcases k0 with _ | k0); (rw [alloc_May.j0] at H; cases H); (rw [alloc_May.j0] at H))
    | ((with_reducible have hJ : alloc_May.j1 k _ _ _ _ _ _ _ _ = some _ := H); clear hJ; (rcases k with _ | k); (rw [alloc_May.j1] at H; cases H); (rw [alloc_May.j1] at H))
    | ((with_reducible have hJ : alloc_May.j1 k0 _ _ _ _ _ _ _ _ = some _ := H); clear hJ; (rcases k0 with _ | k0); (rw [alloc_May.j1] at H; cases H); (rw [alloc_May.j1] at H))
    | ((with_reducible replace H := some_ite H); obtain ⟨_, H⟩ := H)
    | (with_reducible replace H := some_bind_ H)
    | (with_reducible replace H := true_ite H)
    | (with_reducible replace H := false_ite H)
    | ((with_reducible have hb := bool_ite H); clear H; rcases hb with ⟨e_, H⟩ | ⟨e_, H⟩ <;> subst e_)
    | ((with_reducible apply ROps.pure); (case hop => rfl); (case hw => rfl); (case hdst => rfl); (case hd => rfl))
    | (with_reducible apply ROps.nil)
    | (with_reducible apply Runs.seq)
    | (with_reducible apply Runs.region tysOK)
    | (with_reducible apply Runs.block)
    | (with_reducible apply Runs.skip)
    | (with_reducible apply Runs.inBlock)
    | (with_reducible apply Runs.scope)
    | (with_reducible apply Runs.inScope)
    | (with_reducible apply Runs.label)
    | ((with_reducible apply Runs.condT); (case ho => rfl))
    | ((with_reducible apply Runs.condF); (case ho => rfl))
    | ((with_reducible apply Runs.exit); (case he => rfl))
    | ((with_reducible apply ROps.store); (case hop => rfl); (all_goals try rfl))
    | ((with_reducible apply ROps.cmp); (case hop => exact cmpX); (case hw => rfl); (case hdst => rfl); (case hd => rfl); (all_goals (intro h; first | (replace H := ite_pos_ h H) | (replace H := ite_neg_ h H) | (replace H := dec_pos h H) | (replace H := dec_neg h H) | (replace H := dec_t h H) | (replace H := dec_f h H) | (replace H := beq_pos h H) | (replace H := beq_neg h H) | (replace H := beq_tt h H) | (replace H := beq_ff h H) | (replace H := ite_pos_ (Decidable.not_not.1 h) H) | (replace H := beq_pos (Decidable.not_not.1 h) H) | (replace H := beq_tt (Decidable.not_not.1 h) H) | ((try simp only [rd_T47, rdOf] at h); (try simp only [rd_T47, rdOf] at H); (rw [decide_eq_true h] at H)) | ((try simp only [rd_T47, rdOf] at h); (try simp only [rd_T47, rdOf] at H); (rw [decide_eq_false h] at H)) | ((try simp only [rd_T47, rdOf] at h); (try simp only [rd_T47, rdOf] at H); (rw [beq_t h] at H)) | ((try simp only [rd_T47, rdOf] at h); (try simp only [rd_T47, rdOf] at H); (rw [beq_f h] at H)) | ((try simp only [rd_T47, rdOf] at h); (try simp only [rd_T47, rdOf] at H); (rw [bne_t h] at H)) | ((try simp only [rd_T47, rdOf] at h); (try simp only [rd_T47, rdOf] at H); (rw [bne_f h] at H)) | ((try simp only [rd_T47, rdOf] at h); (try simp only [rd_T47, rdOf] at H); (rw [beq_t (Decidable.not_not.1 h)] at H)) | ((try simp only [rd_T47, rdOf] at h); (try simp only [rd_T47, rdOf] at H); (rw [bne_f (Decidable.not_not.1 h)] at H)) | ((try simp only [rd_T47, rdOf] at h); (try simp only [rd_T47, rdOf] at H); (rw [if_pos h] at H)) | ((try simp only [rd_T47, rdOf] at h); (try simp only [rd_T47, rdOf] at H); (rw [if_neg h] at H)) | contradiction | skip)))
    | ((with_reducible apply ROps.val); (case hop => exact valX); (case hw => rfl); (case hdst => rfl); (case hd => rfl))
    | ((with_reducible apply ROps.idx); (case hop => rfl); (case hx => rfl); (case hi => rfl); (case he => rfl); (case hw => rfl); (case hdst => rfl); (case hd => rfl); (case h0 => first | assumption | omega); (case h1 => first | assumption | omega))
    | ((with_reducible apply ROps.alloc); (case hop => rfl); (all_goals try rfl))
    | ((with_reducible apply ROps.box); (case hop => rfl); (case hx => rfl); (case hrf => rfl); (all_goals try rfl))
    | ((with_reducible apply ROps.off); (case hw => rfl); (case hdst => rfl); (case hd => rfl))
    | ((with_reducible have hB : (conf_KeptFor.f _ _ _ _ _ _).bind _ = some _ := H); clear hB; (replace H := bind_some' H); (obtain ⟨⟨t_0, t_1⟩, H1, H⟩ := H); (try dsimp only at H); (with_reducible apply ROps.call); (case hop => rfl); (case hc => exact conf_KeptFor.ok H1); (case ha => exact argsX); (case hw => rfl); (case hdst => rfl); (case hd => rfl))
    | ((with_reducible have hB : (conf_Keeper.f _ _ _ _ _).bind _ = some _ := H); clear hB; (replace H := bind_some' H); (obtain ⟨⟨t_0, t_1⟩, H1, H⟩ := H); (try dsimp only at H); (with_reducible apply ROps.call); (case hop => rfl); (case hc => exact conf_Keeper.ok H1); (case ha => exact argsX); (case hw => rfl); (case hdst => rfl); (case hd => rfl))
    | ((with_reducible have hB : (conf_InPool.f _ _ _ _ _ _).bind _ = some _ := H); clear hB; (replace H := bind_some' H); (obtain ⟨t_, H1, H⟩ := H); (try dsimp only at H); (with_reducible apply ROps.call); (case hop => rfl); (case hc => exact conf_InPool.ok H1); (case ha => exact argsX); (case hw => rfl); (case hdst => rfl); (case hd => rfl))
    | ((with_reducible have hB : (alloc_fair.f _ _ _ _ _ _ _).bind _ = some _ := H); clear hB; (replace H := bind_some' H); (obtain ⟨t_, H1, H⟩ := H); (try dsimp only at H); (with_reducible apply ROps.call); (case hop => rfl); (case hc => exact alloc_fair.ok H1); (case ha => exact argsX); (case hw => rfl); (case hdst => rfl); (case hd => rfl))
    | ((with_reducible have hB : (table_Of.f _ _ _).bind _ = some _ := H); clear hB; (replace H := bind_some' H); (obtain ⟨t_, H1, H⟩ := H); (try dsimp only at H); (with_reducible apply ROps.call); (case hop => rfl); (case hc => exact table_Of.ok H1); (case ha => exact argsX); (case hw => rfl); (case hdst => rfl); (case hd => rfl))
    | ((with_reducible have hB : (table_Holds.f _ _ _ _ _).bind _ = some _ := H); clear hB; (replace H := bind_some' H); (obtain ⟨t_, H1, H⟩ := H); (try dsimp only at H); (with_reducible apply ROps.call); (case hop => rfl); (case hc => exact table_Holds.ok H1); (case ha => exact argsX); (case hw => rfl); (case hdst => rfl); (case hd => rfl))
    | ((with_reducible have hB : (alloc_in.f _ _ _ _ _ _).bind _ = some _ := H); clear hB; (replace H := bind_some' H); (obtain ⟨t_, H1, H⟩ := H); (try dsimp only at H); (with_reducible apply ROps.call); (case hop => rfl); (case hc => exact alloc_in.ok H1); (case ha => exact argsX); (case hw => rfl); (case hdst => rfl); (case hd => rfl))
    | ((with_reducible have hB : (table_Free.f _ _ _ _ _).bind _ = some _ := H); clear hB; (replace H := bind_some' H); (obtain ⟨t_, H1, H⟩ := H); (try dsimp only at H); (with_reducible apply ROps.call); (case hop => rfl); (case hc => exact table_Free.ok H1); (case ha => exact argsX); (case hw => rfl); (case hdst => rfl); (case hd => rfl))
    | ((with_reducible apply Runs.loopK1 ((fun i0 i1 i2 i3 i4 i5 i6 i7 i8 i9 => fun kk (v0_63 : Int) => alloc_May.l0 kk i0 i1 i2 i3 i4 i5 i6 v0_63 i7 i8 i9) _ _ _ _ _ _ _ _ _ _) [1, 2, 3, 4, 5, 6, 61, 62] [] (fun b v0_63 => [(63, .imm (.int .i64 v0_63))]) (fun v0_63 => []) _ _ [] H); (case h0 => intros; rfl); (any_goals (clear H; intro k0 hk0 ih0 v0_63 H; replace H : alloc_May.l0 (k0 + 1) _ _ _ _ _ _ _ v0_63 _ _ _ = some _ := H; rw [alloc_May.l0] at H)))
    | (with_reducible apply ih0 _ _ [] _ _ (by omega) H)
    | ((with_reducible apply Runs.retP tysOK); (case hrs => rfl); (case h => rfl); (case hr => (cases H; exact refX)); (case hx => rfl))
    | exact leRX)
end Go.Proofs.Ytdcabfonjmeajaa.PAlloc
set_option linter.unusedVariables false
set_option linter.unusedSimpArgs false
namespace Go.Proofs.Ytdcabfonjmeajaa.PAlloc
open Go.RowKit Go.Proofs.YtdcabfonjmeajaaW.PrintWords Go.Proofs.YtdcabfonjmeajaaW.PrintLast Go.Proofs.YtdcabfonjmeajaaW.PrintMore Go.Proofs.Ytdcabfonjmeajaa.Abs
/-! ### alloc_Choose_1: function 59 -/
def alloc_Choose_1.f (k : Nat) (p0 : Int) (p1_0 : Int) (p1_1 : Int) (p1_2 : List (S41)) (p2_0 : List (S47)) (p3_0 : Int) (p4_0 : ByteArray) (p5_0 : Int) : Option (Bool) := ((alloc_May.f k p1_0 p1_1 p1_2 p2_0 p3_0 p4_0 p0 p5_0).bind fun t1 => (some t1))
noncomputable def alloc_Choose_1.cx : Cx := ⟨Try.prog, tys, glo, 15, Try.f59, [.tmp 7]⟩
def alloc_Choose_1.Sf (r0 : Bool) (k : Nat) : Prop := ∀ (p0 : Int) (p1_0 : Int) (p1_1 : Int) (p1_2 : List (S41)) (p2_0 : List (S47)) (p3_0 : Int) (p4_0 : ByteArray) (p5_0 : Int), alloc_Choose_1.f k p0 p1_0 p1_1 p1_2 p2_0 p3_0 p4_0 p5_0 = some r0 → Runs alloc_Choose_1.cx (Pur (.imm (.bool r0))) [.code (bodyOf Try.f59)] (frame0 [.imm (.int .i64 p0), .ptr [.imm (.int .i64 p1_0), .imm (.int .i64 p1_1), vS41 p1_2], .ptr [vS47 p2_0], .ptr [.imm (.int .i64 p3_0)], .ptr [.imm (.string p4_0)], .ptr [.imm (.int .i64 p5_0)]]) []
set_option maxHeartbeats 64000000 in
set_option maxRecDepth 100000 in
theorem alloc_Choose_1.seg (r0 : Bool) (k : Nat) : alloc_Choose_1.Sf r0 k := by
  intro p0 p1_0 p1_1 p1_2 p2_0 p3_0 p4_0 p5_0 H
  unfold alloc_Choose_1.f at H
  try dsimp only at H
  repeat' (first
    | ((with_reducible replace H := some_ite H); obtain ⟨_, H⟩ := H)
    | ((with_reducible apply ROps.pure); (case hop => rfl); (case hw => rfl); (case hdst => rfl); (case hd => rfl))
    | (with_reducible apply ROps.nil)
    | (with_reducible apply Runs.seq)
    | (with_reducible apply Runs.region tysOK)
    | (with_reducible apply Runs.scope)
    | (with_reducible apply Runs.inScope)
    | (with_reducible apply Runs.label)
    | ((with_reducible have hB : (alloc_May.f _ _ _ _ _ _ _ _ _).bind _ = some _ := H); clear hB; (replace H := bind_some' H); (obtain ⟨t_, H1, H⟩ := H); (try dsimp only at H); (with_reducible apply ROps.call); (case hop => rfl); (case hc => exact alloc_May.ok H1); (case ha => exact argsX); (case hw => rfl); (case hdst => rfl); (case hd => rfl))
    | ((with_reducible apply Runs.retP tysOK); (case hrs => rfl); (case h => rfl); (case hr => (cases H; exact refX)); (case hx => rfl))
    | exact leRX
    | (refine Runs.code_eq (p' := .seq _ _) rfl ?_)
    | (refine Runs.code_eq (p' := .region _ _ _) rfl ?_)
    | (refine Runs.code_eq (p' := .cond _ _ _) rfl ?_)
    | (refine Runs.code_eq (p' := .block _ _) rfl ?_)
    | (refine Runs.code_eq (p' := .loop _) rfl ?_)
    | (refine Runs.code_eq (p' := .exit _) rfl ?_)
    | (refine Runs.code_eq (p' := .ret) rfl ?_)
    | (refine Runs.code_eq (p' := .skip) rfl ?_)
    | (refine Runs.code_eq (p' := .label _) rfl ?_)
    | (refine Runs.code_eq (p' := .scope _) rfl ?_))
theorem alloc_Choose_1.ok {k : Nat} {p0 : Int} {p1_0 : Int} {p1_1 : Int} {p1_2 : List (S41)} {p2_0 : List (S47)} {p3_0 : Int} {p4_0 : ByteArray} {p5_0 : Int} {r0 : Bool} (H : alloc_Choose_1.f k p0 p1_0 p1_1 p1_2 p2_0 p3_0 p4_0 p5_0 = some r0) : CallOK Try.prog glo 59 [.imm (.int .i64 p0), .ptr [.imm (.int .i64 p1_0), .imm (.int .i64 p1_1), vS41 p1_2], .ptr [vS47 p2_0], .ptr [.imm (.int .i64 p3_0)], .ptr [.imm (.string p4_0)], .ptr [.imm (.int .i64 p5_0)]] (.imm (.bool r0)) :=
  CallOK.of (c := alloc_Choose_1.cx) (p := bodyOf Try.f59) Try.func59 rfl rfl rfl (Nat.le_of_ble_eq_true rfl) (alloc_Choose_1.seg r0 k p0 p1_0 p1_1 p1_2 p2_0 p3_0 p4_0 p5_0 H)
end Go.Proofs.Ytdcabfonjmeajaa.PAlloc
set_option linter.unusedVariables false
set_option linter.unusedSimpArgs false
namespace Go.Proofs.Ytdcabfonjmeajaa.PAlloc
open Go.RowKit Go.Proofs.YtdcabfonjmeajaaW.PrintWords Go.Proofs.YtdcabfonjmeajaaW.PrintLast Go.Proofs.YtdcabfonjmeajaaW.PrintMore Go.Proofs.Ytdcabfonjmeajaa.Abs
/-! ### alloc_first: function 60 -/
def alloc_first.l0 : Nat → List (Int) → Int → Int → List (S41) → List (S47) → Int → ByteArray → Int → Int → Option (Int × Bool)
  | 0, _, _, _, _, _, _, _, _, _ => none
  | k + 1, p0, p1_0, p1_1, p1_2, p1_3, p1_4, p1_5, p1_6, v1 => (if v1 < (p0.length : Int) then (if 0 ≤ v1 then ((alloc_Choose_1.f k (rdOf 0 p0 v1) p1_0 p1_1 p1_2 p1_3 p1_4 p1_5 p1_6).bind fun t2 => (if t2 = true then (some ((rdOf 0 p0 v1), true)) else (alloc_first.l0 k p0 p1_0 p1_1 p1_2 p1_3 p1_4 p1_5 p1_6 (wrap64 (v1 + 1))))) else none) else (some (0, false)))
def alloc_first.f (k : Nat) (p0 : List (Int)) (p1_0 : Int) (p1_1 : Int) (p1_2 : List (S41)) (p1_3 : List (S47)) (p1_4 : Int) (p1_5 : ByteArray) (p1_6 : Int) : Option (Int × Bool) := (alloc_first.l0 k p0 p1_0 p1_1 p1_2 p1_3 p1_4 p1_5 p1_6 0)
noncomputable def alloc_first.cx : Cx := ⟨Try.prog, tys, glo, 19, Try.f60, [.tmp 4, .tmp 5]⟩
def alloc_first.Sl0 (r0 : Int) (r1 : Bool) (k : Nat) : Prop := ∀ (p0 : List (Int)) (p1_0 : Int) (p1_1 : Int) (p1_2 : List (S41)) (p1_3 : List (S47)) (p1_4 : Int) (p1_5 : ByteArray) (p1_6 : Int) (v1 : Int), alloc_first.l0 k p0 p1_0 p1_1 p1_2 p1_3 p1_4 p1_5 p1_6 v1 = some (r0, r1) → Runs alloc_first.cx (Pur (.tup [.imm (.int .i64 r0), .imm (.bool r1)])) [.code (cP (bodyOf Try.f60) [1, 0, 1, 0, 0]), .inLoop (cP (bodyOf Try.f60) [1, 0, 1, 0, 0]), .inBlock 0, .code (cP (bodyOf Try.f60) [1, 1])] (overF none_ [(1, .fn 59 [.ptr [.imm (.int .i64 p1_0), .imm (.int .i64 p1_1), vS41 p1_2], .ptr [vS47 p1_3], .ptr [.imm (.int .i64 p1_4)], .ptr [.imm (.string p1_5)], .ptr [.imm (.int .i64 p1_6)]]), (8, vI .i64 p0), (9, .imm (.int .i64 (p0.length : Int))), (10, .imm (.int .i64 v1))]) []
def alloc_first.Sf (r0 : Int) (r1 : Bool) (k : Nat) : Prop := ∀ (p0 : List (Int)) (p1_0 : Int) (p1_1 : Int) (p1_2 : List (S41)) (p1_3 : List (S47)) (p1_4 : Int) (p1_5 : ByteArray) (p1_6 : Int), alloc_first.f k p0 p1_0 p1_1 p1_2 p1_3 p1_4 p1_5 p1_6 = some (r0, r1) → Runs alloc_first.cx (Pur (.tup [.imm (.int .i64 r0), .imm (.bool r1)])) [.code (bodyOf Try.f60)] (frame0 [vI .i64 p0, .fn 59 [.ptr [.imm (.int .i64 p1_0), .imm (.int .i64 p1_1), vS41 p1_2], .ptr [vS47 p1_3], .ptr [.imm (.int .i64 p1_4)], .ptr [.imm (.string p1_5)], .ptr [.imm (.int .i64 p1_6)]]]) []
set_option maxHeartbeats 64000000 in
set_option maxRecDepth 100000 in
theorem alloc_first.seg (r0 : Int) (r1 : Bool) : (∀ k, alloc_first.Sl0 r0 r1 k) ∧ ∀ k, (alloc_first.Sl0 r0 r1 k) → alloc_first.Sf r0 r1 k := by
  have hs : ∀ k, (alloc_first.Sl0 r0 r1 k) → (alloc_first.Sl0 r0 r1 (k + 1)) ∧ alloc_first.Sf r0 r1 k := by
    intro k h
    have h_l0 := h
    refine ⟨?_, ?_⟩
    (intro p0 p1_0 p1_1 p1_2 p1_3 p1_4 p1_5 p1_6 v1 H; rw [alloc_first.l0] at H; try dsimp only at H)
    rotate_left
    (intro p0 p1_0 p1_1 p1_2 p1_3 p1_4 p1_5 p1_6 H; unfold alloc_first.f at H; try dsimp only at H)
    rotate_left
    repeat' (first
      | ((with_reducible have hJ : alloc_first.l0 _ _ _ _ _ _ _ _ _ _ = some _ := H); clear hJ; (with_reducible apply Runs.loop); (apply Runs.le [] (h_l0 _ _ _ _ _ _ _ _ _ H)))
      | ((with_reducible have hJ : alloc_first.l0 _ _ _ _ _ _ _ _ _ _ = some _ := H); clear hJ; (with_reducible apply Runs.inLoop); (apply Runs.le [] (h_l0 _ _ _ _ _ _ _ _ _ H)))
      | ((with_reducible replace H := some_ite H); obtain ⟨_, H⟩ := H)
      | (with_reducible replace H := true_ite H)
      | (with_reducible replace H := false_ite H)
      | ((with_reducible have hb := bool_ite H); clear H; rcases hb with ⟨e_, H⟩ | ⟨e_, H⟩ <;> subst e_)
      | ((with_reducible apply ROps.pure); (case hop => rfl); (case hw => rfl); (case hdst => rfl); (case hd => rfl))
      | (with_reducible apply ROps.nil)
      | (with_reducible apply Runs.seq)
      | (with_reducible apply Runs.region tysOK)
      | (with_reducible apply Runs.block)
      | (with_reducible apply Runs.skip)
      | (with_reducible apply Runs.inBlock)
      | (with_reducible apply Runs.scope)
      | (with_reducible apply Runs.inScope)
      | (with_reducible apply Runs.label)
      | ((with_reducible apply Runs.condT); (case ho => rfl))
      | ((with_reducible apply Runs.condF); (case ho => rfl))
      | ((with_reducible apply Runs.exit); (case he => rfl))
      | ((with_reducible apply ROps.cmp); (case hop => exact cmpX); (case hw => rfl); (case hdst => rfl); (case hd => rfl); (all_goals (intro h; first | (replace H := ite_pos_ h H) | (replace H := ite_neg_ h H) | (replace H := ite_pos_ (Decidable.not_not.1 h) H) | ((try simp only [rdOf] at h); (try simp only [rdOf] at H); (rw [if_pos h] at H)) | ((try simp only [rdOf] at h); (try simp only [rdOf] at H); (rw [if_neg h] at H)) | contradiction | skip)))
      | ((with_reducible apply ROps.val); (case hop => exact valX); (case hw => rfl); (case hdst => rfl); (case hd => rfl))
      | ((with_reducible apply ROps.idx); (case hop => rfl); (case hx => rfl); (case hi => rfl); (case he => rfl); (case hw => rfl); (case hdst => rfl); (case hd => rfl); (case h0 => first | assumption | omega); (case h1 => first | assumption | omega))
      | ((with_reducible have hB : (alloc_Choose_1.f _ _ _ _ _ _ _ _ _).bind _ = some _ := H); clear hB; (replace H := bind_some' H); (obtain ⟨t_, H1, H⟩ := H); (try dsimp only at H); (with_reducible apply ROps.callv); (case hop => rfl); (case hq => rfl); (case hc => exact alloc_Choose_1.ok H1); (case ha => exact argsX); (case hw => rfl); (case hdst => rfl); (case hd => rfl))
      | ((with_reducible apply Runs.retP tysOK); (case hrs => rfl); (case h => rfl); (case hr => (cases H; exact refX)); (case hx => rfl))
      | exact leRX
      | (refine Runs.code_eq (p' := .seq _ _) rfl ?_)
      | (refine Runs.code_eq (p' := .region _ _ _) rfl ?_)
      | (refine Runs.code_eq (p' := .cond _ _ _) rfl ?_)
      | (refine Runs.code_eq (p' := .block _ _) rfl ?_)
      | (refine Runs.code_eq (p' := .loop _) rfl ?_)
      | (refine Runs.code_eq (p' := .exit _) rfl ?_)
      | (refine Runs.code_eq (p' := .ret) rfl ?_)
      | (refine Runs.code_eq (p' := .skip) rfl ?_)
      | (refine Runs.code_eq (p' := .label _) rfl ?_)
      | (refine Runs.code_eq (p' := .scope _) rfl ?_))
  refine ⟨fun k => ?_, fun k h => (hs k h).2⟩
  induction k with
  | zero => intro _ _ _ _ _ _ _ _ _ H; rw [alloc_first.l0] at H; cases H
  | succ k ih => exact (hs k ih).1
theorem alloc_first.ok {k : Nat} {p0 : List (Int)} {p1_0 : Int} {p1_1 : Int} {p1_2 : List (S41)} {p1_3 : List (S47)} {p1_4 : Int} {p1_5 : ByteArray} {p1_6 : Int} {r0 : Int} {r1 : Bool} (H : alloc_first.f k p0 p1_0 p1_1 p1_2 p1_3 p1_4 p1_5 p1_6 = some (r0, r1)) : CallOK Try.prog glo 60 [vI .i64 p0, .fn 59 [.ptr [.imm (.int .i64 p1_0), .imm (.int .i64 p1_1), vS41 p1_2], .ptr [vS47 p1_3], .ptr [.imm (.int .i64 p1_4)], .ptr [.imm (.string p1_5)], .ptr [.imm (.int .i64 p1_6)]]] (.tup [.imm (.int .i64 r0), .imm (.bool r1)]) :=
  CallOK.of (c := alloc_first.cx) (p := bodyOf Try.f60) Try.func60 rfl rfl rfl (Nat.le_of_ble_eq_true rfl) ((alloc_first.seg r0 r1).2 k ((alloc_first.seg r0 r1).1 k) p0 p1_0 p1_1 p1_2 p1_3 p1_4 p1_5 p1_6 H)
end Go.Proofs.Ytdcabfonjmeajaa.PAlloc
set_option linter.unusedVariables false
set_option linter.unusedSimpArgs false
namespace Go.Proofs.Ytdcabfonjmeajaa.PAlloc
open Go.RowKit Go.Proofs.YtdcabfonjmeajaaW.PrintWords Go.Proofs.YtdcabfonjmeajaaW.PrintLast Go.Proofs.YtdcabfonjmeajaaW.PrintMore Go.Proofs.Ytdcabfonjmeajaa.Abs
/-! ### alloc_Choose: function 32 -/
mutual
def alloc_Choose.j0 : Nat → List (Int) → Int → Int → Int → List (S41) → List (S47) → Int → ByteArray → Int → List (Int) → Option (Int × Bool)
  | 0, _, _, _, _, _, _, _, _, _, _ => none
  | k + 1, v4, p4, p0_0, p0_1, p0_2, p1, p2, p3, p5, v6 => (if v6.length + v4.length ≤ 17592186044416 then (if (v6 ++ v4).length + 1 ≤ 17592186044416 then ((alloc_first.f k ((v6 ++ v4) ++ ([p4] : List (Int))) p0_0 p0_1 p0_2 p1 p2 p3 p5).bind fun b8 => (if b8.2 = true then (some (b8.1, true)) else (if 0 ≤ p2 then (if p2 < (p0_2.length : Int) then (alloc_Choose.l1 k p0_2 p2 p0_0 p0_1 p1 p3 p5 0) else none) else none))) else none) else none)
def alloc_Choose.l0 : Nat → List (S47) → Int → Int → List (S41) → Int → Int → List (S47) → ByteArray → Int → List (Int) → List (Int) → Int → Option (Int × Bool)
  | 0, _, _, _, _, _, _, _, _, _, _, _, _ => none
  | k + 1, t2, p0_0, p0_1, p0_2, p2, p5, p1, p3, p4, v3, v4, v5 => (if v5 < (t2.length : Int) then (if 0 ≤ v5 then ((alloc_in.f k p0_0 p0_1 p0_2 p2 ((rd_T47 t2 v5).f0)).bind fun t14 => (if (!t14) = true then (alloc_Choose.l0 k t2 p0_0 p0_1 p0_2 p2 p5 p1 p3 p4 v3 v4 (wrap64 (v5 + 1))) else ((table_Holds.f ((rd_T47 t2 v5).f0) ((rd_T47 t2 v5).f1) ((rd_T47 t2 v5).f2) ((rd_T47 t2 v5).f3) p5).bind fun t15 => (if t15 = true then (if v3.length + 1 ≤ 17592186044416 then (alloc_Choose.l0 k t2 p0_0 p0_1 p0_2 p2 p5 p1 p3 p4 (v3 ++ ([(rd_T47 t2 v5).f0] : List (Int))) v4 (wrap64 (v5 + 1))) else none) else (if v4.length + 1 ≤ 17592186044416 then (alloc_Choose.l0 k t2 p0_0 p0_1 p0_2 p2 p5 p1 p3 p4 v3 (v4 ++ ([(rd_T47 t2 v5).f0] : List (Int))) (wrap64 (v5 + 1))) else none))))) else none) else (if (v3.length : Int) > 0 then ((alloc_first.f k v3 p0_0 p0_1 p0_2 p1 p2 p3 p5).bind fun b13 => (some (b13.1, b13.2))) else ((conf_KeptFor.f k p0_0 p0_1 p0_2 p2 p3).bind fun b7 => (if b7.2 = true then (if 1 ≤ 17592186044416 then (alloc_Choose.j0 k v4 p4 p0_0 p0_1 p0_2 p1 p2 p3 p5 ([b7.1] : List (Int))) else none) else (alloc_Choose.j0 k v4 p4 p0_0 p0_1 p0_2 p1 p2 p3 p5 ([] : List (Int)))))))
def alloc_Choose.l1 : Nat → List (S41) → Int → Int → Int → List (S47) → ByteArray → Int → Int → Option (Int × Bool)
  | 0, _, _, _, _, _, _, _, _ => none
  | k + 1, p0_2, p2, p0_0, p0_1, p1, p3, p5, v9 => (if v9 < ((rd_T41 p0_2 p2).f0.length : Int) then (if 0 ≤ v9 then (alloc_Choose.l2 k p0_2 p2 v9 p0_0 p0_1 p1 p3 p5 0) else none) else (some (0, false)))
def alloc_Choose.l2 : Nat → List (S41) → Int → Int → Int → Int → List (S47) → ByteArray → Int → Int → Option (Int × Bool)
  | 0, _, _, _, _, _, _, _, _, _ => none
  | k + 1, p0_2, p2, v9, p0_0, p0_1, p1, p3, p5, v10 => (if v10 < ((rd_T57 (rd_T41 p0_2 p2).f0 v9).f2.length : Int) then (if 0 ≤ v10 then (alloc_Choose.l3 k p0_2 p2 v9 v10 p0_0 p0_1 p1 p3 p5 ((rd_T62 (rd_T57 (rd_T41 p0_2 p2).f0 v9).f2 v10).f0)) else none) else (alloc_Choose.l1 k p0_2 p2 p0_0 p0_1 p1 p3 p5 (wrap64 (v9 + 1))))
def alloc_Choose.l3 : Nat → List (S41) → Int → Int → Int → Int → Int → List (S47) → ByteArray → Int → Int → Option (Int × Bool)
  | 0, _, _, _, _, _, _, _, _, _, _ => none
  | k + 1, p0_2, p2, v9, v10, p0_0, p0_1, p1, p3, p5, v11 => (if v11 ≤ (rd_T62 (rd_T57 (rd_T41 p0_2 p2).f0 v9).f2 v10).f1 then ((alloc_Choose_1.f k v11 p0_0 p0_1 p0_2 p1 p2 p3 p5).bind fun t12 => (if t12 = true then (some (v11, true)) else (alloc_Choose.l3 k p0_2 p2 v9 v10 p0_0 p0_1 p1 p3 p5 (wrap64 (v11 + 1))))) else (alloc_Choose.l2 k p0_2 p2 v9 p0_0 p0_1 p1 p3 p5 (wrap64 (v10 + 1))))
end
def alloc_Choose.f (k : Nat) (p0_0 : Int) (p0_1 : Int) (p0_2 : List (S41)) (p1 : List (S47)) (p2 : Int) (p3 : ByteArray) (p4 : Int) (p5 : Int) : Option (Int × Bool) := ((alloc_fair.f k p0_0 p0_1 p0_2 p1 p2 p3).bind fun t1 => (if (!t1) = true then (some (0, false)) else ((table_Of.f k p1 p3).bind fun t2 => (alloc_Choose.l0 k t2 p0_0 p0_1 p0_2 p2 p5 p1 p3 p4 ([] : List (Int)) ([] : List (Int)) 0))))
noncomputable def alloc_Choose.cx : Cx := ⟨Try.prog, tys, glo, 135, Try.f32, [.tmp 12, .tmp 13]⟩
def alloc_Choose.Sj0 (r0 : Int) (r1 : Bool) (k : Nat) : Prop := ∀ (v4 : List (Int)) (p4 : Int) (p0_0 : Int) (p0_1 : Int) (p0_2 : List (S41)) (p1 : List (S47)) (p2 : Int) (p3 : ByteArray) (p5 : Int) (v6 : List (Int)), alloc_Choose.j0 k v4 p4 p0_0 p0_1 p0_2 p1 p2 p3 p5 v6 = some (r0, r1) → Runs alloc_Choose.cx (Pur (.tup [.imm (.int .i64 r0), .imm (.bool r1)])) [.code (cP (bodyOf Try.f32) [1, 0, 1, 1, 1, 1, 1, 1, 1]), .inScope (cP (bodyOf Try.f32) [1, 0])] (overF none_ [(4, .imm (.int .i64 p4)), (6, .ptr [.imm (.int .i64 p0_0), .imm (.int .i64 p0_1), vS41 p0_2]), (8, .ptr [.imm (.int .i64 p2)]), (14, .fn 59 [.ptr [.imm (.int .i64 p0_0), .imm (.int .i64 p0_1), vS41 p0_2], .ptr [vS47 p1], .ptr [.imm (.int .i64 p2)], .ptr [.imm (.string p3)], .ptr [.imm (.int .i64 p5)]]), (16, .own 0 (v4).length 1 (rowsE (eInt .i64) 0 v4)), (19, .own 1 (v6).length 1 (rowsE (eInt .i64) 0 v6))]) [.arr 3 1 (v4).length, .arr 3 1 (v6).length]
def alloc_Choose.Sl0 (r0 : Int) (r1 : Bool) (k : Nat) : Prop := ∀ (t2 : List (S47)) (p0_0 : Int) (p0_1 : Int) (p0_2 : List (S41)) (p2 : Int) (p5 : Int) (p1 : List (S47)) (p3 : ByteArray) (p4 : Int) (v3 : List (Int)) (v4 : List (Int)) (v5 : Int), alloc_Choose.l0 k t2 p0_0 p0_1 p0_2 p2 p5 p1 p3 p4 v3 v4 v5 = some (r0, r1) → Runs alloc_Choose.cx (Pur (.tup [.imm (.int .i64 r0), .imm (.bool r1)])) [.code (cP (bodyOf Try.f32) [1, 0, 1, 1, 1, 0, 1, 0, 0]), .inLoop (cP (bodyOf Try.f32) [1, 0, 1, 1, 1, 0, 1, 0, 0]), .inBlock 0, .code (cP (bodyOf Try.f32) [1, 0, 1, 1, 1, 1]), .inScope (cP (bodyOf Try.f32) [1, 0])] (overF none_ [(4, .imm (.int .i64 p4)), (6, .ptr [.imm (.int .i64 p0_0), .imm (.int .i64 p0_1), vS41 p0_2]), (8, .ptr [.imm (.int .i64 p2)]), (9, .ptr [.imm (.string p3)]), (11, .ptr [.imm (.int .i64 p5)]), (14, .fn 59 [.ptr [.imm (.int .i64 p0_0), .imm (.int .i64 p0_1), vS41 p0_2], .ptr [vS47 p1], .ptr [.imm (.int .i64 p2)], .ptr [.imm (.string p3)], .ptr [.imm (.int .i64 p5)]]), (15, .own 0 (v3).length 1 (rowsE (eInt .i64) 0 v3)), (16, .own 1 (v4).length 1 (rowsE (eInt .i64) 0 v4)), (40, vS47 t2), (41, .imm (.int .i64 (t2.length : Int))), (42, .imm (.int .i64 v5))]) [.arr 3 1 (v3).length, .arr 3 1 (v4).length]
def alloc_Choose.Sl1 (r0 : Int) (r1 : Bool) (k : Nat) : Prop := ∀ (p0_2 : List (S41)) (p2 : Int) (p0_0 : Int) (p0_1 : Int) (p1 : List (S47)) (p3 : ByteArray) (p5 : Int) (v9 : Int), alloc_Choose.l1 k p0_2 p2 p0_0 p0_1 p1 p3 p5 v9 = some (r0, r1) → Runs alloc_Choose.cx (Pur (.tup [.imm (.int .i64 r0), .imm (.bool r1)])) [.code (cP (bodyOf Try.f32) [1, 0, 1, 1, 1, 1, 1, 1, 1, 1, 1, 1, 0, 1, 0, 0]), .inLoop (cP (bodyOf Try.f32) [1, 0, 1, 1, 1, 1, 1, 1, 1, 1, 1, 1, 0, 1, 0, 0]), .inBlock 3, .code (cP (bodyOf Try.f32) [1, 0, 1, 1, 1, 1, 1, 1, 1, 1, 1, 1, 1]), .inScope (cP (bodyOf Try.f32) [1, 0])] (overF none_ [(14, .fn 59 [.ptr [.imm (.int .i64 p0_0), .imm (.int .i64 p0_1), vS41 p0_2], .ptr [vS47 p1], .ptr [.imm (.int .i64 p2)], .ptr [.imm (.string p3)], .ptr [.imm (.int .i64 p5)]]), (24, .imm (.int .i64 0)), (25, .imm (.bool false)), (106, vS57 ((rd_T41 p0_2 p2).f0)), (107, .imm (.int .i64 ((rd_T41 p0_2 p2).f0.length : Int))), (108, .imm (.int .i64 v9))]) []
def alloc_Choose.Sl2 (r0 : Int) (r1 : Bool) (k : Nat) : Prop := ∀ (p0_2 : List (S41)) (p2 : Int) (v9 : Int) (p0_0 : Int) (p0_1 : Int) (p1 : List (S47)) (p3 : ByteArray) (p5 : Int) (v10 : Int), alloc_Choose.l2 k p0_2 p2 v9 p0_0 p0_1 p1 p3 p5 v10 = some (r0, r1) → Runs alloc_Choose.cx (Pur (.tup [.imm (.int .i64 r0), .imm (.bool r1)])) [.code (cP (bodyOf Try.f32) [1, 0, 1, 1, 1, 1, 1, 1, 1, 1, 1, 1, 0, 1, 0, 0, 1, 1, 0, 0, 1, 1, 0, 0]), .inLoop (cP (bodyOf Try.f32) [1, 0, 1, 1, 1, 1, 1, 1, 1, 1, 1, 1, 0, 1, 0, 0, 1, 1, 0, 0, 1, 1, 0, 0]), .inBlock 5, .inBlock 4, .code (cP (bodyOf Try.f32) [1, 0, 1, 1, 1, 1, 1, 1, 1, 1, 1, 1, 0, 1, 0, 0, 1, 1, 1]), .inLoop (cP (bodyOf Try.f32) [1, 0, 1, 1, 1, 1, 1, 1, 1, 1, 1, 1, 0, 1, 0, 0]), .inBlock 3, .code (cP (bodyOf Try.f32) [1, 0, 1, 1, 1, 1, 1, 1, 1, 1, 1, 1, 1]), .inScope (cP (bodyOf Try.f32) [1, 0])] (overF none_ [(14, .fn 59 [.ptr [.imm (.int .i64 p0_0), .imm (.int .i64 p0_1), vS41 p0_2], .ptr [vS47 p1], .ptr [.imm (.int .i64 p2)], .ptr [.imm (.string p3)], .ptr [.imm (.int .i64 p5)]]), (24, .imm (.int .i64 0)), (25, .imm (.bool false)), (106, vS57 ((rd_T41 p0_2 p2).f0)), (107, .imm (.int .i64 ((rd_T41 p0_2 p2).f0.length : Int))), (108, .imm (.int .i64 v9)), (113, vS62 ((rd_T57 (rd_T41 p0_2 p2).f0 v9).f2)), (114, .imm (.int .i64 ((rd_T57 (rd_T41 p0_2 p2).f0 v9).f2.length : Int))), (115, .imm (.int .i64 v10))]) []
def alloc_Choose.Sl3 (r0 : Int) (r1 : Bool) (k : Nat) : Prop := ∀ (p0_2 : List (S41)) (p2 : Int) (v9 : Int) (v10 : Int) (p0_0 : Int) (p0_1 : Int) (p1 : List (S47)) (p3 : ByteArray) (p5 : Int) (v11 : Int), alloc_Choose.l3 k p0_2 p2 v9 v10 p0_0 p0_1 p1 p3 p5 v11 = some (r0, r1) → Runs alloc_Choose.cx (Pur (.tup [.imm (.int .i64 r0), .imm (.bool r1)])) [.code (cP (bodyOf Try.f32) [1, 0, 1, 1, 1, 1, 1, 1, 1, 1, 1, 1, 0, 1, 0, 0, 1, 1, 0, 0, 1, 1, 0, 0, 1, 1, 0, 0, 1, 1, 0, 0]), .inLoop (cP (bodyOf Try.f32) [1, 0, 1, 1, 1, 1, 1, 1, 1, 1, 1, 1, 0, 1, 0, 0, 1, 1, 0, 0, 1, 1, 0, 0, 1, 1, 0, 0, 1, 1, 0, 0]), .inBlock 7, .inBlock 6, .code (cP (bodyOf Try.f32) [1, 0, 1, 1, 1, 1, 1, 1, 1, 1, 1, 1, 0, 1, 0, 0, 1, 1, 0, 0, 1, 1, 0, 0, 1, 1, 1]), .inLoop (cP (bodyOf Try.f32) [1, 0, 1, 1, 1, 1, 1, 1, 1, 1, 1, 1, 0, 1, 0, 0, 1, 1, 0, 0, 1, 1, 0, 0]), .inBlock 5, .inBlock 4, .code (cP (bodyOf Try.f32) [1, 0, 1, 1, 1, 1, 1, 1, 1, 1, 1, 1, 0, 1, 0, 0, 1, 1, 1]), .inLoop (cP (bodyOf Try.f32) [1, 0, 1, 1, 1, 1, 1, 1, 1, 1, 1, 1, 0, 1, 0, 0]), .inBlock 3, .code (cP (bodyOf Try.f32) [1, 0, 1, 1, 1, 1, 1, 1, 1, 1, 1, 1, 1]), .inScope (cP (bodyOf Try.f32) [1, 0])] (overF none_ [(14, .fn 59 [.ptr [.imm (.int .i64 p0_0), .imm (.int .i64 p0_1), vS41 p0_2], .ptr [vS47 p1], .ptr [.imm (.int .i64 p2)], .ptr [.imm (.string p3)], .ptr [.imm (.int .i64 p5)]]), (24, .imm (.int .i64 0)), (25, .imm (.bool false)), (29, .loc 0 0 0), (30, .imm (.int .i64 v11)), (106, vS57 ((rd_T41 p0_2 p2).f0)), (107, .imm (.int .i64 ((rd_T41 p0_2 p2).f0.length : Int))), (108, .imm (.int .i64 v9)), (113, vS62 ((rd_T57 (rd_T41 p0_2 p2).f0 v9).f2)), (114, .imm (.int .i64 ((rd_T57 (rd_T41 p0_2 p2).f0 v9).f2.length : Int))), (115, .imm (.int .i64 v10))]) [.mat 1 2 (fun _ => [.imm (.int .i64 (rd_T62 (rd_T57 (rd_T41 p0_2 p2).f0 v9).f2 v10).f0), .imm (.int .i64 (rd_T62 (rd_T57 (rd_T41 p0_2 p2).f0 v9).f2 v10).f1)])]
def alloc_Choose.Sf (r0 : Int) (r1 : Bool) (k : Nat) : Prop := ∀ (p0_0 : Int) (p0_1 : Int) (p0_2 : List (S41)) (p1 : List (S47)) (p2 : Int) (p3 : ByteArray) (p4 : Int) (p5 : Int), alloc_Choose.f k p0_0 p0_1 p0_2 p1 p2 p3 p4 p5 = some (r0, r1) → Runs alloc_Choose.cx (Pur (.tup [.imm (.int .i64 r0), .imm (.bool r1)])) [.code (bodyOf Try.f32)] (frame0 [.agg [.imm (.int .i64 p0_0), .imm (.int .i64 p0_1), vS41 p0_2], vS47 p1, .imm (.int .i64 p2), .imm (.string p3), .imm (.int .i64 p4), .imm (.int .i64 p5)]) []
set_option maxHeartbeats 64000000 in
set_option maxRecDepth 100000 in
theorem alloc_Choose.seg (r0 : Int) (r1 : Bool) : (∀ k, alloc_Choose.Sj0 r0 r1 k ∧ alloc_Choose.Sl0 r0 r1 k ∧ alloc_Choose.Sl1 r0 r1 k ∧ alloc_Choose.Sl2 r0 r1 k ∧ alloc_Choose.Sl3 r0 r1 k) ∧ ∀ k, (alloc_Choose.Sj0 r0 r1 k ∧ alloc_Choose.Sl0 r0 r1 k ∧ alloc_Choose.Sl1 r0 r1 k ∧ alloc_Choose.Sl2 r0 r1 k ∧ alloc_Choose.Sl3 r0 r1 k) → alloc_Choose.Sf r0 r1 k := by
  have hs : ∀ k, (alloc_Choose.Sj0 r0 r1 k ∧ alloc_Choose.Sl0 r0 r1 k ∧ alloc_Choose.Sl1 r0 r1 k ∧ alloc_Choose.Sl2 r0 r1 k ∧ alloc_Choose.Sl3 r0 r1 k) → (alloc_Choose.Sj0 r0 r1 (k + 1) ∧ alloc_Choose.Sl0 r0 r1 (k + 1) ∧ alloc_Choose.Sl1 r0 r1 (k + 1) ∧ alloc_Choose.Sl2 r0 r1 (k + 1) ∧ alloc_Choose.Sl3 r0 r1 (k + 1)) ∧ alloc_Choose.Sf r0 r1 k := by
    intro k h
    obtain ⟨h_j0, h_l0, h_l1, h_l2, h_l3⟩ := h
    refine ⟨⟨?_, ?_, ?_, ?_, ?_⟩, ?_⟩
    (intro v4 p4 p0_0 p0_1 p0_2 p1 p2 p3 p5 v6 H; rw [alloc_Choose.j0] at H; try dsimp only at H)
    rotate_left
    (intro t2 p0_0 p0_1 p0_2 p2 p5 p1 p3 p4 v3 v4 v5 H; rw [alloc_Choose.l0] at H; try dsimp only at H)
    rotate_left
    (intro p0_2 p2 p0_0 p0_1 p1 p3 p5 v9 H; rw [alloc_Choose.l1] at H; try dsimp only at H)
    rotate_left
    (intro p0_2 p2 v9 p0_0 p0_1 p1 p3 p5 v10 H; rw [alloc_Choose.l2] at H; try dsimp only at H)
    rotate_left
    (intro p0_2 p2 v9 v10 p0_0 p0_1 p1 p3 p5 v11 H; rw [alloc_Choose.l3] at H; try dsimp only at H)
    rotate_left
    (intro p0_0 p0_1 p0_2 p1 p2 p3 p4 p5 H; unfold alloc_Choose.f at H; try dsimp only at H)
    rotate_left
    repeat' (first
      | ((with_reducible have hJ : alloc_Choose.j0 _ _ _ _ _ _ _ _ _ _ _ = some _ := H); clear hJ; (apply Runs.le [_, _] (h_j0 _ _ _ _ _ _ _ _ _ _ H)))
      | ((with_reducible have hJ : alloc_Choose.l0 _ _ _ _ _ _ _ _ _ _ _ _ _ = some _ := H); clear hJ; (with_reducible apply Runs.loop); (apply Runs.le [_, _] (h_l0 _ _ _ _ _ _ _ _ _ _ _ _ H)))
      | ((with_reducible have hJ : alloc_Choose.l0 _ _ _ _ _ _ _ _ _ _ _ _ _ = some _ := H); clear hJ; (with_reducible apply Runs.inLoop); (apply Runs.le [_, _] (h_l0 _ _ _ _ _ _ _ _ _ _ _ _ H)))
      | ((with_reducible have hJ : alloc_Choose.l1 _ _ _ _ _ _ _ _ _ = some _ := H); clear hJ; (with_reducible apply Runs.loop); (apply Runs.le [] (h_l1 _ _ _ _ _ _ _ _ H)))
      | ((with_reducible have hJ : alloc_Choose.l1 _ _ _ _ _ _ _ _ _ = some _ := H); clear hJ; (with_reducible apply Runs.inLoop); (apply Runs.le [] (h_l1 _ _ _ _ _ _ _ _ H)))
      | ((with_reducible have hJ : alloc_Choose.l2 _ _ _ _ _ _ _ _ _ _ = some _ := H); clear hJ; (with_reducible apply Runs.loop); (apply Runs.le [] (h_l2 _ _ _ _ _ _ _ _ _ H)))
      | ((with_reducible have hJ : alloc_Choose.l2 _ _ _ _ _ _ _ _ _ _ = some _ := H); clear hJ; (with_reducible apply Runs.inLoop); (apply Runs.le [] (h_l2 _ _ _ _ _ _ _ _ _ H)))
      | ((with_reducible have hJ : alloc_Choose.l3 _ _ _ _ _ _ _ _ _ _ _ = some _ := H); clear hJ; (with_reducible apply Runs.loop); (apply Runs.le [_] (h_l3 _ _ _ _ _ _ _ _ _ _ H)))
      | ((with_reducible have hJ : alloc_Choose.l3 _ _ _ _ _ _ _ _ _ _ _ = some _ := H); clear hJ; (with_reducible apply Runs.inLoop); (apply Runs.le [_] (h_l3 _ _ _ _ _ _ _ _ _ _ H)))
      | ((with_reducible replace H := some_ite H); obtain ⟨_, H⟩ := H)
      | (with_reducible replace H := some_bind_ H)
      | (with_reducible replace H := true_ite H)
      | (with_reducible replace H := false_ite H)
      | ((with_reducible have hb := bool_ite H); clear H; rcases hb with ⟨e_, H⟩ | ⟨e_, H⟩ <;> subst e_)
      | ((with_reducible have hb := bool_iteN H); clear H; rcases hb with ⟨e_, H⟩ | ⟨e_, H⟩ <;> subst e_)
      | ((with_reducible apply ROps.pure); (case hop => rfl); (case hw => rfl); (case hdst => rfl); (case hd => rfl))
      | (with_reducible apply ROps.nil)
      | (with_reducible apply Runs.seq)
      | (with_reducible apply Runs.region tysOK)
      | (with_reducible apply Runs.block)
      | (with_reducible apply Runs.skip)
      | (with_reducible apply Runs.inBlock)
      | (with_reducible apply Runs.scope)
      | (with_reducible apply Runs.inScope)
      | (with_reducible apply Runs.label)
      | ((with_reducible apply Runs.condT); (case ho => rfl))
      | ((with_reducible apply Runs.condF); (case ho => rfl))
      | ((with_reducible apply Runs.exit); (case he => rfl))
      | ((with_reducible apply ROps.store); (case hop => rfl); (all_goals try rfl))
      | ((with_reducible apply ROps.cmp); (case hop => exact cmpX); (case hw => rfl); (case hdst => rfl); (case hd => rfl); (all_goals (intro h; first | (replace H := ite_pos_ h H) | (replace H := ite_neg_ h H) | (replace H := ite_pos_ (Decidable.not_not.1 h) H) | ((try simp only [rd_T41, rd_T47, rd_T57, rd_T62, rdOf] at h); (try simp only [rd_T41, rd_T47, rd_T57, rd_T62, rdOf] at H); (rw [if_pos h] at H)) | ((try simp only [rd_T41, rd_T47, rd_T57, rd_T62, rdOf] at h); (try simp only [rd_T41, rd_T47, rd_T57, rd_T62, rdOf] at H); (rw [if_neg h] at H)) | contradiction | skip)))
      | ((with_reducible apply ROps.val); (case hop => exact valX); (case hw => rfl); (case hdst => rfl); (case hd => rfl))
      | ((with_reducible apply ROps.idx); (case hop => rfl); (case hx => rfl); (case hi => rfl); (case he => rfl); (case hw => rfl); (case hdst => rfl); (case hd => rfl); (case h0 => first | assumption | omega); (case h1 => first | assumption | omega))
      | ((with_reducible apply ROps.alloc); (case hop => rfl); (all_goals try rfl))
      | ((with_reducible apply ROps.box); (case hop => rfl); (case hx => rfl); (case hrf => rfl); (all_goals try rfl))
      | ((with_reducible apply ROps.lit); (case hop => rfl); (case hti => rfl); (case hsz => rfl); (case hl => rfl); (case hrf => rfl); (all_goals try rfl))
      | ((with_reducible apply ROps.app); (case hop => rfl); (case hti => rfl); (case hsz => rfl); (case hs => rfl); (case hR => rfl); (case hx => rfl); (case hb => constructor <;> ((try simp only [maxLen, List.length_nil, List.length_cons, List.length_append] at *); omega)); (all_goals try rfl))
      | ((with_reducible apply ROps.appN); (case hop => rfl); (case hti => rfl); (case hsz => rfl); (case hs => rfl); (case hx => rfl); (case hb => constructor <;> ((try simp only [maxLen, List.length_nil, List.length_cons, List.length_append] at *); omega)); (all_goals try rfl))
      | ((with_reducible have hB : (alloc_Choose_1.f _ _ _ _ _ _ _ _ _).bind _ = some _ := H); clear hB; (replace H := bind_some' H); (obtain ⟨t_, H1, H⟩ := H); (try dsimp only at H); (with_reducible apply ROps.callv); (case hop => rfl); (case hq => rfl); (case hc => exact alloc_Choose_1.ok H1); (case ha => exact argsX); (case hw => rfl); (case hdst => rfl); (case hd => rfl))
      | ((with_reducible have hB : (alloc_fair.f _ _ _ _ _ _ _).bind _ = some _ := H); clear hB; (replace H := bind_some' H); (obtain ⟨t_, H1, H⟩ := H); (try dsimp only at H); (with_reducible apply ROps.call); (case hop => rfl); (case hc => exact alloc_fair.ok H1); (case ha => exact argsX); (case hw => rfl); (case hdst => rfl); (case hd => rfl))
      | ((with_reducible have hB : (alloc_first.f _ _ _ _ _ _ _ _ _).bind _ = some _ := H); clear hB; (replace H := bind_some' H); (obtain ⟨⟨t_0, t_1⟩, H1, H⟩ := H); (try dsimp only at H); (with_reducible apply ROps.call); (case hop => rfl); (case hc => exact alloc_first.ok H1); (case ha => exact argsX); (case hw => rfl); (case hdst => rfl); (case hd => rfl))
      | ((with_reducible have hB : (alloc_in.f _ _ _ _ _ _).bind _ = some _ := H); clear hB; (replace H := bind_some' H); (obtain ⟨t_, H1, H⟩ := H); (try dsimp only at H); (with_reducible apply ROps.call); (case hop => rfl); (case hc => exact alloc_in.ok H1); (case ha => exact argsX); (case hw => rfl); (case hdst => rfl); (case hd => rfl))
      | ((with_reducible have hB : (conf_KeptFor.f _ _ _ _ _ _).bind _ = some _ := H); clear hB; (replace H := bind_some' H); (obtain ⟨⟨t_0, t_1⟩, H1, H⟩ := H); (try dsimp only at H); (with_reducible apply ROps.call); (case hop => rfl); (case hc => exact conf_KeptFor.ok H1); (case ha => exact argsX); (case hw => rfl); (case hdst => rfl); (case hd => rfl))
      | ((with_reducible have hB : (table_Holds.f _ _ _ _ _).bind _ = some _ := H); clear hB; (replace H := bind_some' H); (obtain ⟨t_, H1, H⟩ := H); (try dsimp only at H); (with_reducible apply ROps.call); (case hop => rfl); (case hc => exact table_Holds.ok H1); (case ha => exact argsX); (case hw => rfl); (case hdst => rfl); (case hd => rfl))
      | ((with_reducible have hB : (table_Of.f _ _ _).bind _ = some _ := H); clear hB; (replace H := bind_some' H); (obtain ⟨t_, H1, H⟩ := H); (try dsimp only at H); (with_reducible apply ROps.call); (case hop => rfl); (case hc => exact table_Of.ok H1); (case ha => exact argsX); (case hw => rfl); (case hdst => rfl); (case hd => rfl))
      | ((with_reducible apply Runs.retP tysOK); (case hrs => rfl); (case h => rfl); (case hr => (cases H; exact refX)); (case hx => rfl))
      | exact leRX
      | (refine Runs.code_eq (p' := .seq _ _) rfl ?_)
      | (refine Runs.code_eq (p' := .region _ _ _) rfl ?_)
      | (refine Runs.code_eq (p' := .cond _ _ _) rfl ?_)
      | (refine Runs.code_eq (p' := .block _ _) rfl ?_)
      | (refine Runs.code_eq (p' := .loop _) rfl ?_)
      | (refine Runs.code_eq (p' := .exit _) rfl ?_)
      | (refine Runs.code_eq (p' := .ret) rfl ?_)
      | (refine Runs.code_eq (p' := .skip) rfl ?_)
      | (refine Runs.code_eq (p' := .label _) rfl ?_)
      | (refine Runs.code_eq (p' := .scope _) rfl ?_))
  refine ⟨fun k => ?_, fun k h => (hs k h).2⟩
  induction k with
  | zero => exact ⟨(by intro _ _ _ _ _ _ _ _ _ _ H; rw [alloc_Choose.j0] at H; cases H), (by intro _ _ _ _ _ _ _ _ _ _ _ _ H; rw [alloc_Choose.l0] at H; cases H), (by intro _ _ _ _ _ _ _ _ H; rw [alloc_Choose.l1] at H; cases H), (by intro _ _ _ _ _ _ _ _ _ H; rw [alloc_Choose.l2] at H; cases H), (by intro _ _ _ _ _ _ _ _ _ _ H; rw [alloc_Choose.l3] at H; cases H)⟩
  | succ k ih => exact (hs k ih).1
theorem alloc_Choose.ok {k : Nat} {p0_0 : Int} {p0_1 : Int} {p0_2 : List (S41)} {p1 : List (S47)} {p2 : Int} {p3 : ByteArray} {p4 : Int} {p5 : Int} {r0 : Int} {r1 : Bool} (H : alloc_Choose.f k p0_0 p0_1 p0_2 p1 p2 p3 p4 p5 = some (r0, r1)) : CallOK Try.prog glo 32 [.agg [.imm (.int .i64 p0_0), .imm (.int .i64 p0_1), vS41 p0_2], vS47 p1, .imm (.int .i64 p2), .imm (.string p3), .imm (.int .i64 p4), .imm (.int .i64 p5)] (.tup [.imm (.int .i64 r0), .imm (.bool r1)]) :=
  CallOK.of (c := alloc_Choose.cx) (p := bodyOf Try.f32) Try.func32 rfl rfl rfl (Nat.le_of_ble_eq_true rfl) ((alloc_Choose.seg r0 r1).2 k ((alloc_Choose.seg r0 r1).1 k) p0_0 p0_1 p0_2 p1 p2 p3 p4 p5 H)
end Go.Proofs.Ytdcabfonjmeajaa.PAlloc
