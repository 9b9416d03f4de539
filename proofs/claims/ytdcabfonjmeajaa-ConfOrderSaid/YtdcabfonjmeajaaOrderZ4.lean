/- What this claim rests on, part 4: abstract values, walks of the code over them, what the functions come to; each under its theorem's own conditions. -/
import Derived.ChangeSame
import Derived.Deep.Fields
import Derived.Deep.Slices
import Derived.KernelRfl
import Derived.Laws.BitsLemmas
import Derived.Laws.Entries
import Derived.RowKit
import Derived.Test.YtdcabfonjmeajaaProg
import Derived.WideShapes
import Derived.Test.YtdcabfonjmeajaaOrderZ3
set_option linter.unusedVariables false
namespace Go.Proofs.Ytdcabfonjmeajaa.POrder
open Go.RowKit Go.Proofs.YtdcabfonjmeajaaW.PrintWords Go.Proofs.YtdcabfonjmeajaaW.PrintLast Go.Proofs.YtdcabfonjmeajaaW.PrintMore Go.Proofs.Ytdcabfonjmeajaa.Abs
structure S62 where
  f0 : Int
  f1 : Int
def z62 : S62 := ⟨(0 : Int), (0 : Int)⟩
def rd_T62 (xs : List S62) (i : Int) : S62 := xs.getD i.toNat z62
def eS62 (x : S62) : List AV := [.imm (.int .i64 x.f0), .imm (.int .i64 x.f1)]
abbrev vS62 (l : List S62) : AV := .sl l.length 2 (rowsE eS62 z62 l)
structure S59 where
  f0 : ByteArray
  f1 : Int
def z59 : S59 := ⟨(⟨#[]⟩ : ByteArray), (0 : Int)⟩
def rd_T59 (xs : List S59) (i : Int) : S59 := xs.getD i.toNat z59
def eS59 (x : S59) : List AV := [.imm (.string x.f0), .imm (.int .i64 x.f1)]
abbrev vS59 (l : List S59) : AV := .sl l.length 2 (rowsE eS59 z59 l)
structure S57 where
  f0 : Int
  f1 : Int
  f2 : (List S62)
  f3 : (List S59)
  f4 : Int
  f5 : Int
  f6 : Int
def z57 : S57 := ⟨(0 : Int), (0 : Int), ([] : List S62), ([] : List S59), (0 : Int), (0 : Int), (0 : Int)⟩
def rd_T57 (xs : List S57) (i : Int) : S57 := xs.getD i.toNat z57
def eS57 (x : S57) : List AV := [.imm (.int .i64 x.f0), .imm (.int .i64 x.f1), vS62 x.f2, vS59 x.f3, .imm (.int .i64 x.f4), .imm (.int .i64 x.f5), .imm (.int .i64 x.f6)]
abbrev vS57 (l : List S57) : AV := .sl l.length 7 (rowsE eS57 z57 l)
structure S41 where
  f0 : (List S57)
def z41 : S41 := ⟨([] : List S57)⟩
def rd_T41 (xs : List S41) (i : Int) : S41 := xs.getD i.toNat z41
def eS41 (x : S41) : List AV := [vS57 x.f0]
abbrev vS41 (l : List S41) : AV := .sl l.length 1 (rowsE eS41 z41 l)
structure S66 where
  f0 : Int
  f1 : Int
  f2 : S57
def z66 : S66 := ⟨(0 : Int), (0 : Int), z57⟩
def rd_T66 (xs : List S66) (i : Int) : S66 := xs.getD i.toNat z66
def eS66 (x : S66) : List AV := [.imm (.int .i64 x.f0), .imm (.int .i64 x.f1), .imm (.int .i64 x.f2.f0), .imm (.int .i64 x.f2.f1), vS62 x.f2.f2, vS59 x.f2.f3, .imm (.int .i64 x.f2.f4), .imm (.int .i64 x.f2.f5), .imm (.int .i64 x.f2.f6)]
abbrev vS66 (l : List S66) : AV := .sl l.length 9 (rowsE eS66 z66 l)
noncomputable def tys : Tys := [(3, { kind := some .i64, zero := [.int .i64 0] }), (4, { bol := true, zero := [.bool false] }), (9, { str := true, zero := [.string ⟨#[]⟩] }), (22, { el := 41, elem := 1, eby := 24, zero := [.slice none 0 0] }), (24, { agg := true, size := 3, offs := [0, 1, 2], fsz := [1, 1, 1], zero := [.int .i64 0, .int .i64 0, .slice none 0 0] }), (39, { el := 57, elem := 7, eby := 88, zero := [.slice none 0 0] }), (41, { agg := true, size := 1, offs := [0], fsz := [1], zero := [.slice none 0 0] }), (54, { el := 62, elem := 2, eby := 16, zero := [.slice none 0 0] }), (55, { el := 59, elem := 2, eby := 24, zero := [.slice none 0 0] }), (57, { agg := true, size := 7, offs := [0, 1, 2, 3, 4, 5, 6], fsz := [1, 1, 1, 1, 1, 1, 1], zero := [.int .i64 0, .int .i64 0, .slice none 0 0, .slice none 0 0, .int .i64 0, .int .i64 0, .int .i64 0] }), (59, { agg := true, size := 2, offs := [0, 1], fsz := [1, 1], zero := [.string ⟨#[]⟩, .int .i64 0] }), (62, { agg := true, size := 2, offs := [0, 1], fsz := [1, 1], zero := [.int .i64 0, .int .i64 0] }), (63, { el := 66, elem := 9, eby := 104, zero := [.slice none 0 0] }), (66, { agg := true, size := 9, offs := [0, 1, 2], fsz := [1, 1, 7], zero := [.int .i64 0, .int .i64 0, .int .i64 0, .int .i64 0, .slice none 0 0, .slice none 0 0, .int .i64 0, .int .i64 0, .int .i64 0] })]
theorem tysOK : TyOK Try.prog tys := .of (by kernel_rfl)
theorem mixed : Try.prog.follows .mixedOrders = true := by kernel_rfl
def glo : Glo := fun _ => .any
theorem argsX {l r : List AV} (h : ArgsOK l r := by repeat (first | exact ArgsOK.nil | (refine ArgsOK.same rfl ?_) | (refine ArgsOK.ref (Ref.own' (by first | rfl | (simp only [List.length_append, List.length_cons, List.length_nil] <;> omega) | (simp <;> omega)) (by first | exact fun _ _ => rfl | exact rows_snoc rfl | exact rows_nil | exact rows_one rfl | exact rows_two rfl rfl | exact rows_cons rfl (rows_cons rfl (rows_cons rfl rows_nil)) | exact rows_cons rfl (rows_cons rfl (rows_cons rfl (rows_cons rfl rows_nil))) | exact rows_app (fun _ _ => rfl) rfl | exact rows_app (rows_one rfl) rfl | (refine rows_app2 ?_ (by first | rfl | (simp only [List.length_append, List.length_cons, List.length_nil] <;> omega) | (simp <;> omega)) ?_ rfl <;> (first | exact rows_one rfl | exact (fun _ _ => rfl) | (refine rows_app2 ?_ (by first | rfl | (simp only [List.length_append, List.length_cons, List.length_nil] <;> omega) | (simp <;> omega)) ?_ rfl <;> (first | exact rows_one rfl | exact (fun _ _ => rfl))))))) rfl ?_) | (refine ArgsOK.ref (Ref.sl' (by first | rfl | (simp only [List.length_append, List.length_cons, List.length_nil] <;> omega) | (simp <;> omega)) (by first | exact fun _ _ => rfl | exact rows_snoc rfl | exact rows_nil | exact rows_one rfl | exact rows_two rfl rfl | exact rows_cons rfl (rows_cons rfl (rows_cons rfl rows_nil)) | exact rows_cons rfl (rows_cons rfl (rows_cons rfl (rows_cons rfl rows_nil))) | exact rows_app (fun _ _ => rfl) rfl | exact rows_app (rows_one rfl) rfl | (refine rows_app2 ?_ (by first | rfl | (simp only [List.length_append, List.length_cons, List.length_nil] <;> omega) | (simp <;> omega)) ?_ rfl <;> (first | exact rows_one rfl | exact (fun _ _ => rfl) | (refine rows_app2 ?_ (by first | rfl | (simp only [List.length_append, List.length_cons, List.length_nil] <;> omega) | (simp <;> omega)) ?_ rfl <;> (first | exact rows_one rfl | exact (fun _ _ => rfl))))))) rfl ?_) | (refine ArgsOK.ref (Ref.nil' rfl) rfl ?_))) : ArgsOK l r := h
theorem refX {a x : AV} (h : Ref a x := by repeat' (first | exact Ref.rfl' _ | exact RefL.nil | refine RefL.cons ?_ ?_ | refine Ref.tup ?_ | refine Ref.agg ?_ | exact Ref.own' (by first | rfl | (simp only [List.length_append, List.length_cons, List.length_nil] <;> omega) | (simp <;> omega)) (by first | exact fun _ _ => rfl | exact rows_snoc rfl | exact rows_nil | exact rows_one rfl | exact rows_two rfl rfl | exact rows_cons rfl (rows_cons rfl (rows_cons rfl rows_nil)) | exact rows_cons rfl (rows_cons rfl (rows_cons rfl (rows_cons rfl rows_nil))) | exact rows_app (fun _ _ => rfl) rfl | exact rows_app (rows_one rfl) rfl | (refine rows_app2 ?_ (by first | rfl | (simp only [List.length_append, List.length_cons, List.length_nil] <;> omega) | (simp <;> omega)) ?_ rfl <;> (first | exact rows_one rfl | exact (fun _ _ => rfl) | (refine rows_app2 ?_ (by first | rfl | (simp only [List.length_append, List.length_cons, List.length_nil] <;> omega) | (simp <;> omega)) ?_ rfl <;> (first | exact rows_one rfl | exact (fun _ _ => rfl)))))) | exact Ref.nil' rfl | exact Ref.sl' (by first | rfl | (simp only [List.length_append, List.length_cons, List.length_nil] <;> omega) | (simp <;> omega)) (by first | exact fun _ _ => rfl | exact rows_snoc rfl | exact rows_nil | exact rows_one rfl | exact rows_two rfl rfl | exact rows_cons rfl (rows_cons rfl (rows_cons rfl rows_nil)) | exact rows_cons rfl (rows_cons rfl (rows_cons rfl (rows_cons rfl rows_nil))) | exact rows_app (fun _ _ => rfl) rfl | exact rows_app (rows_one rfl) rfl | (refine rows_app2 ?_ (by first | rfl | (simp only [List.length_append, List.length_cons, List.length_nil] <;> omega) | (simp <;> omega)) ?_ rfl <;> (first | exact rows_one rfl | exact (fun _ _ => rfl) | (refine rows_app2 ?_ (by first | rfl | (simp only [List.length_append, List.length_cons, List.length_nil] <;> omega) | (simp <;> omega)) ?_ rfl <;> (first | exact rows_one rfl | exact (fun _ _ => rfl)))))) | refine Ref.one ?_ rfl | refine Ref.snocW ?_ (fun _ => rfl))) : Ref a x := h
theorem refLX {l r : List AV} (h : RefL l r := by repeat (first | exact RefL.nil | refine RefL.cons refX ?_)) : RefL l r := h
theorem leRX {m : Nat} {l : List (Option Nat)} {fr fr' : Fr} {R R' : List Reg} (h : LeR m l fr R fr' R' := by (with_reducible apply LeR.mk); (case frm => repeat (first | exact leR_none _ _ _ | (with_reducible exact leR_keep0) | (with_reducible refine leR_over0 ?_) | (with_reducible refine leR_keep ?_ ?_) | (with_reducible refine leR_over ?_ ?_) | exact RefX.st rfl (Ref.rfl' _) rfl | exact RefX.loc rfl rfl | exact RefX.msl rfl rfl | exact RefX.nil rfl rfl | exact RefX.own rfl rfl (by first | rfl | (simp only [List.length_append, List.length_cons, List.length_nil] <;> omega) | (simp <;> omega)) (by first | exact fun _ _ => rfl | exact rows_snoc rfl | exact rows_nil | exact rows_one rfl | exact rows_two rfl rfl | exact rows_cons rfl (rows_cons rfl (rows_cons rfl rows_nil)) | exact rows_cons rfl (rows_cons rfl (rows_cons rfl (rows_cons rfl rows_nil))) | exact rows_app (fun _ _ => rfl) rfl | exact rows_app (rows_one rfl) rfl | (refine rows_app2 ?_ (by first | rfl | (simp only [List.length_append, List.length_cons, List.length_nil] <;> omega) | (simp <;> omega)) ?_ rfl <;> (first | exact rows_one rfl | exact (fun _ _ => rfl) | (refine rows_app2 ?_ (by first | rfl | (simp only [List.length_append, List.length_cons, List.length_nil] <;> omega) | (simp <;> omega)) ?_ rfl <;> (first | exact rows_one rfl | exact (fun _ _ => rfl)))))) | exact RefX.st rfl (Ref.nil' rfl) rfl | exact RefX.sl (by first | rfl | (simp only [List.length_append, List.length_cons, List.length_nil] <;> omega) | (simp <;> omega)) (by first | exact fun _ _ => rfl | exact rows_snoc rfl | exact rows_nil | exact rows_one rfl | exact rows_two rfl rfl | exact rows_cons rfl (rows_cons rfl (rows_cons rfl rows_nil)) | exact rows_cons rfl (rows_cons rfl (rows_cons rfl (rows_cons rfl rows_nil))) | exact rows_app (fun _ _ => rfl) rfl | exact rows_app (rows_one rfl) rfl | (refine rows_app2 ?_ (by first | rfl | (simp only [List.length_append, List.length_cons, List.length_nil] <;> omega) | (simp <;> omega)) ?_ rfl <;> (first | exact rows_one rfl | exact (fun _ _ => rfl) | (refine rows_app2 ?_ (by first | rfl | (simp only [List.length_append, List.length_cons, List.length_nil] <;> omega) | (simp <;> omega)) ?_ rfl <;> (first | exact rows_one rfl | exact (fun _ _ => rfl)))))) | exact RefX.st rfl (Ref.sl' (by first | rfl | (simp only [List.length_append, List.length_cons, List.length_nil] <;> omega) | (simp <;> omega)) (by first | exact fun _ _ => rfl | exact rows_snoc rfl | exact rows_nil | exact rows_one rfl | exact rows_two rfl rfl | exact rows_cons rfl (rows_cons rfl (rows_cons rfl rows_nil)) | exact rows_cons rfl (rows_cons rfl (rows_cons rfl (rows_cons rfl rows_nil))) | exact rows_app (fun _ _ => rfl) rfl | exact rows_app (rows_one rfl) rfl | (refine rows_app2 ?_ (by first | rfl | (simp only [List.length_append, List.length_cons, List.length_nil] <;> omega) | (simp <;> omega)) ?_ rfl <;> (first | exact rows_one rfl | exact (fun _ _ => rfl) | (refine rows_app2 ?_ (by first | rfl | (simp only [List.length_append, List.length_cons, List.length_nil] <;> omega) | (simp <;> omega)) ?_ rfl <;> (first | exact rows_one rfl | exact (fun _ _ => rfl))))))) rfl | exact RefX.rfx refX rfl)); (case reg => repeat (first | (with_reducible refine RegsX.cons ?_ ?_) | exact RegsX.nil | refine RegsX.cons ?_ ?_ | exact RegX.dead | exact RegX.arr rfl rfl (by first | rfl | (simp only [List.length_append, List.length_cons, List.length_nil] <;> omega) | (simp <;> omega)) | exact RegX.nil rfl | exact RegX.same1 rfl rfl rfl | (refine RegX.mat1 rfl rfl ?_; repeat (first | exact RefXL.nil | refine RefXL.cons ?_ ?_ | exact RefX.any _ | exact RefX.st rfl (Ref.rfl' _) rfl | exact RefX.loc rfl rfl | exact RefX.msl rfl rfl | exact RefX.nil rfl rfl | exact RefX.snocO rfl rfl refLX (fun _ => rfl) | exact RefX.ownR rfl rfl rfl (Ref.one refLX rfl) | exact RefX.own rfl rfl (by first | rfl | (simp only [List.length_append, List.length_cons, List.length_nil] <;> omega) | (simp <;> omega)) (by first | exact fun _ _ => rfl | exact rows_snoc rfl | exact rows_nil | exact rows_one rfl | exact rows_two rfl rfl | exact rows_cons rfl (rows_cons rfl (rows_cons rfl rows_nil)) | exact rows_cons rfl (rows_cons rfl (rows_cons rfl (rows_cons rfl rows_nil))) | exact rows_app (fun _ _ => rfl) rfl | exact rows_app (rows_one rfl) rfl | (refine rows_app2 ?_ (by first | rfl | (simp only [List.length_append, List.length_cons, List.length_nil] <;> omega) | (simp <;> omega)) ?_ rfl <;> (first | exact rows_one rfl | exact (fun _ _ => rfl) | (refine rows_app2 ?_ (by first | rfl | (simp only [List.length_append, List.length_cons, List.length_nil] <;> omega) | (simp <;> omega)) ?_ rfl <;> (first | exact rows_one rfl | exact (fun _ _ => rfl)))))) | exact RefX.sl (by first | rfl | (simp only [List.length_append, List.length_cons, List.length_nil] <;> omega) | (simp <;> omega)) (by first | exact fun _ _ => rfl | exact rows_snoc rfl | exact rows_nil | exact rows_one rfl | exact rows_two rfl rfl | exact rows_cons rfl (rows_cons rfl (rows_cons rfl rows_nil)) | exact rows_cons rfl (rows_cons rfl (rows_cons rfl (rows_cons rfl rows_nil))) | exact rows_app (fun _ _ => rfl) rfl | exact rows_app (rows_one rfl) rfl | (refine rows_app2 ?_ (by first | rfl | (simp only [List.length_append, List.length_cons, List.length_nil] <;> omega) | (simp <;> omega)) ?_ rfl <;> (first | exact rows_one rfl | exact (fun _ _ => rfl) | (refine rows_app2 ?_ (by first | rfl | (simp only [List.length_append, List.length_cons, List.length_nil] <;> omega) | (simp <;> omega)) ?_ rfl <;> (first | exact rows_one rfl | exact (fun _ _ => rfl)))))) | exact RefX.rfx refX rfl)))); (case inj => rfl); (case pin => rfl)) : LeR m l fr R fr' R' := h
theorem refX0 {l : List (Option Nat)} {R' : List Reg} {a x : AV} (h : RefX l R' a x := by first | exact RefX.st rfl (Ref.rfl' _) rfl | exact RefX.loc rfl rfl | exact RefX.msl rfl rfl | exact RefX.own rfl rfl (by first | rfl | (simp only [List.length_append, List.length_cons, List.length_nil] <;> omega) | (simp <;> omega)) (by first | exact fun _ _ => rfl | exact rows_snoc rfl | exact rows_nil | exact rows_one rfl | exact rows_two rfl rfl | exact rows_cons rfl (rows_cons rfl (rows_cons rfl rows_nil)) | exact rows_cons rfl (rows_cons rfl (rows_cons rfl (rows_cons rfl rows_nil))) | exact rows_app (fun _ _ => rfl) rfl | exact rows_app (rows_one rfl) rfl | (refine rows_app2 ?_ (by first | rfl | (simp only [List.length_append, List.length_cons, List.length_nil] <;> omega) | (simp <;> omega)) ?_ rfl <;> (first | exact rows_one rfl | exact (fun _ _ => rfl) | (refine rows_app2 ?_ (by first | rfl | (simp only [List.length_append, List.length_cons, List.length_nil] <;> omega) | (simp <;> omega)) ?_ rfl <;> (first | exact rows_one rfl | exact (fun _ _ => rfl)))))) | exact RefX.nil rfl rfl | exact RefX.rfx refX rfl) : RefX l R' a x := h
theorem refXX {l : List (Option Nat)} {R' : List Reg} {a x : AV} (h : RefX l R' a x := by first | exact refX0 | exact RefX.agg' (by repeat (first | exact RefXL.nil | refine RefXL.cons refX0 ?_))) : RefX l R' a x := h
theorem handsX {s : Nat → Nat} {Rc : List Reg} {sl : List Nat} {R : List Reg} (h : HandsL s Rc sl R := by repeat (first | exact HandsL.nil | refine HandsL.cons rfl ?_)) : HandsL s Rc sl R := h
theorem argsMX {m : Nat} {s : Nat → Nat} {l r : List AV} (h : ArgsM m s l r := by repeat (first | exact ArgsM.nil | (refine ArgsM.ren rfl rfl ?_) | (refine ArgsM.ref refX rfl ?_))) : ArgsM m s l r := h
theorem sameX {R R' : List Reg} (h : SameR R R' := by repeat (first | exact SameR.nil | refine SameR.mat ?_ | refine SameR.dead ?_)) : SameR R R' := h
theorem bdX {m : Nat} {R : List Reg} (h : BdR m R := by repeat (first | exact BdR.nil | refine BdR.dead ?_ | refine BdR.arr ?_ | refine BdR.mat (fun _ _ => rfl) ?_)) : ∀ r ∈ R, ∀ n sz row, r = .mat n sz row → ∀ j, j < n → bdA.bdL m (row j) = true := h.all
theorem cmpX {G : Glo} {fr : Fr} {o : Op} {p : Prop} (h : CmpA G fr o p := by first | exact CmpA.lss rfl rfl | exact CmpA.leq rfl rfl | exact CmpA.gtr rfl rfl | exact CmpA.geq rfl rfl | exact CmpA.eql rfl rfl | exact CmpA.neq rfl rfl | exact CmpA.seq rfl rfl | exact CmpA.sne rfl rfl) : CmpA G fr o p := h
theorem valX {tys : Tys} {G : Glo} {fr : Fr} {o : Op} {x : AV} (h : ValA tys G fr o x := by first | exact ValA.bin (BinA.mul rfl rfl) | exact ValA.bin (BinA.add8 rfl rfl) | exact ValA.bin (BinA.sub8 rfl rfl) | exact ValA.bin (BinA.mul8 rfl rfl) | exact ValA.bin (BinA.addK rfl rfl) | exact ValA.bin (BinA.subK rfl rfl) | exact ValA.bin (BinA.mulK rfl rfl) | exact ValA.bin (BinA.bits rfl rfl rfl) | exact ValA.bin (BinA.shl rfl rfl (by first | assumption | omega)) | exact ValA.bin (BinA.shr rfl rfl (by first | assumption | omega)) | exact ValA.bin (BinA.quo64 rfl rfl (by first | assumption | decide)) | exact ValA.bin (BinA.quo rfl rfl (by first | assumption | decide)) | exact ValA.bin (BinA.rem rfl rfl (by first | assumption | decide)) | exact ValA.bin (BinA.cat rfl rfl (by first | assumption | omega)) | exact ValA.bin (BinA.neg rfl) | exact ValA.idxS rfl rfl rfl (by first | assumption | omega) (by first | assumption | omega) | exact ValA.beqB rfl rfl rfl | exact ValA.bneB rfl rfl rfl) : ValA tys G fr o x := h
end Go.Proofs.Ytdcabfonjmeajaa.POrder
set_option linter.unusedVariables false
set_option linter.unusedSimpArgs false
namespace Go.Proofs.Ytdcabfonjmeajaa.Abs
open Go.RowKit Go.Deep
/-- Cells that stand for abstract values, in a whole world. -/
structure RepL (w : World) (l : List AV) (vs : List Value) : Prop where
  len : vs.length = l.length
  one : ∀ v ∈ vs, v.oneCell' = true
  rep : ∀ (i : Nat) (a : AV) (v : Value), l[i]? = some a → vs[i]? = some v → Rep0 (fun ad => w.cell? ad) a v
theorem RepL.single {w : World} {a : AV} {v : Value} (h : Rep0 (fun ad => w.cell? ad) a v) (h1 : v.oneCell' = true) : RepL w [a] [v] :=
  ⟨rfl, fun u hu => by simp at hu; subst hu; exact h1, fun i x u p q => by
    cases i with
    | zero => simp at p q; subst p; subst q; exact h
    | succ i => simp at p⟩
theorem RepL.append {w : World} {l l' : List AV} {vs vs' : List Value} (h : RepL w l vs) (t : RepL w l' vs') : RepL w (l ++ l') (vs ++ vs') :=
  ⟨by simp [h.len, t.len], fun u hu => (List.mem_append.1 hu).elim (h.one u) (t.one u), fun i a v p q => by
    by_cases hi : i < l.length
    · rw [List.getElem?_append_left hi] at p
      rw [List.getElem?_append_left (by rw [h.len]; exact hi)] at q
      exact h.rep i a v p q
    · rw [List.getElem?_append_right (by omega)] at p
      rw [List.getElem?_append_right (by rw [h.len]; omega), h.len] at q
      exact t.rep _ a v p q⟩
/-- Cells that are read as data of a type stand for an element, of which F holds. -/
def RaT {α : Type} (e : α → List AV) (F : α → Prop) (w : World) (cs : List Value) : Prop := ∃ a : α, RepL w (e a) cs ∧ F a
def Ra (P : Program) {α : Type} (e : α → List AV) (F : α → Prop) (t : TypeId) : Prop :=
  ∀ (H : Type) (enc : TypeId × Value → H) (w : World) (fuel : Nat) (cs : List Value) (x : DataW H × List MemPlace), DataW.trod enc P w 0 (fun _ => true) true fuel t cs = some x → RaT e F w cs
section
variable {P : Program} {α β : Type} {d : α → List AV} {d2 : β → List AV} {F : α → Prop} {F2 : β → Prop} {t e : TypeId} {w : World} {cs : List Value}
theorem ra_int {k : IntKind} (ht : P.underlying t = some (.int k)) : Ra P (eInt k) (fun n => (Lit.int k n).wf = true) t := by
  intro H enc w fuel cs x h
  obtain ⟨n, rfl, _, hw⟩ := DataW.trod_int ht h
  exact ⟨n, .single (.imm _) rfl, hw⟩
theorem ra_string (ht : P.underlying t = some .string) : Ra P eStr (fun s => s.size ≤ maxLen) t := by
  intro H enc w fuel cs x h
  obtain ⟨n, rfl, _, hw⟩ := DataW.trod_string ht h
  exact ⟨n, .single (.imm _) rfl, hw⟩
theorem ra_slice {sz : Nat} {z : α} (ht : P.underlying t = some (.slice e)) (hC : P.cellsOf e = sz) (hl : ∀ a, (d a).length = sz) (hr : Ra P d F e) : Ra P (fun l : List α => [AV.sl l.length sz (rowsE d z l)]) (fun xs => xs.length ≤ maxLen ∧ ∀ x ∈ xs, F x) t := by
  intro H enc w fuel cs x h
  rcases open_slice ht h with ⟨rfl, _⟩ | ⟨a, len, cap, m, n, D, Pl, rfl, _, hlen, hm, hmm, _, hi⟩
  · exact ⟨[], .single (.sl 0 sz _ none 0 default (fun _ => []) (Nat.le_refl _) (fun h => by omega) (fun j h => by omega) (fun j h => by omega) (fun j i v h => by omega) (fun j i a v h => by omega)) rfl, by simp [maxLen], fun x hx => by simp at hx⟩
  · have hcap : m = cap := by rw [hmm]; rfl
    have hex : ∀ i : _root_.Fin len, ∃ (p : α × List Value), RepL w (d p.1) p.2 ∧ F p.1 ∧ ∀ j u, p.2[j]? = some u → w.cell? (a.add (i.val * sz + j)) = some u := by
      intro i
      obtain ⟨c, hc, htr⟩ := hi i.val (by omega)
      obtain ⟨p, hp, hF⟩ := hr H enc w n c _ htr
      obtain ⟨_, hcl, hat⟩ := World.cells?_some hc
      refine ⟨(p, c), hp, hF, fun j u hj => ?_⟩
      have hjl : j < c.length := (List.getElem?_eq_some_iff.1 hj).1
      have := hat j (by omega)
      rw [hj, hC, Go.Deep.add_add] at this
      exact this
    let f : _root_.Fin len → α × List Value := fun i => Classical.choose (hex i)
    have hf : ∀ i : _root_.Fin len, RepL w (d (f i).1) (f i).2 ∧ F (f i).1 ∧ ∀ j u, (f i).2[j]? = some u → w.cell? (a.add (i.val * sz + j)) = some u := fun i => Classical.choose_spec (hex i)
    have hlen2 : (List.ofFn fun i => (f i).1).length = len := by simp
    have hget : ∀ j (hj : j < len), (List.ofFn fun i => (f i).1).getD j z = (f ⟨j, hj⟩).1 := fun j hj => by
      rw [List.getD_eq_getElem?_getD, List.getElem?_eq_getElem (by simpa using hj), Option.getD_some, List.getElem_ofFn]
    refine ⟨List.ofFn fun i => (f i).1, .single ?_ rfl, by omega, fun x hx => ?_⟩
    · rw [hlen2]
      refine .sl len sz _ (some a) cap a (fun j => if hj : j < len then (f ⟨j, hj⟩).2 else []) (by omega) (fun _ => rfl) (fun j hj => ⟨hl _, ?_⟩) (fun j hj v hv => ?_) (fun j i v hj hv => ?_) (fun j i x v hj hx hv => ?_)
      · rw [dif_pos hj, (hf ⟨j, hj⟩).1.len, hl]
      · rw [dif_pos hj] at hv; exact (hf ⟨j, hj⟩).1.one v hv
      · rw [dif_pos hj] at hv; exact (hf ⟨j, hj⟩).2.2 i v hv
      · rw [dif_pos hj] at hv
        unfold rowsE at hx
        rw [hget j hj] at hx
        exact (hf ⟨j, hj⟩).1.rep i x v hx hv
    · obtain ⟨i, rfl⟩ := List.mem_ofFn.1 hx
      exact (hf i).2.1
/-! A struct: its fields' cells, one behind the other. -/
theorem rat_field {H : Type} {enc : TypeId × Value → H} {n : Nat} {xs : List (DataW H × List MemPlace)} {fs : Array Field} (hl : xs.length = fs.size)
    (hf : ∀ (i : Nat) (f : Field), fs[i]? = some f → DataW.trod enc P w 0 (fun _ => true) true n f.type ((cs.drop f.offset).take (P.cellsOf f.type)) = xs[i]?)
    (i : Nat) (f : Field) (hi : fs[i]? = some f) (o s : Nat) (ho : f.offset = o) (hs : P.cellsOf f.type = s) (hr : Ra P d F f.type) : RaT d F w ((cs.drop o).take s) := by
  have hil : i < fs.size := (Array.getElem?_eq_some_iff.1 hi).1
  have h := hf i f hi
  rw [List.getElem?_eq_getElem (by omega), ho, hs] at h
  exact hr H enc w n _ _ h
theorem rat_cons (o s : Nat) (h1 : RaT d F w ((cs.drop o).take s)) (h2 : RaT d2 F2 w (cs.drop (o + s))) : RaT (fun x : α × β => d x.1 ++ d2 x.2) (fun x => F x.1 ∧ F2 x.2) w (cs.drop o) := by
  obtain ⟨a, ha, hF⟩ := h1
  obtain ⟨b, hb, hG⟩ := h2
  refine ⟨(a, b), ?_, hF, hG⟩
  have := ha.append hb
  rw [← List.drop_drop, List.take_append_drop] at this
  exact this
theorem rat_last (o s : Nat) (hl : cs.length = o + s) (h1 : RaT d F w ((cs.drop o).take s)) : RaT d F w (cs.drop o) := by
  rw [List.take_of_length_le (by rw [List.length_drop]; omega)] at h1
  exact h1
theorem rat_iso {e : β → List AV} {F' : β → Prop} (g : α → β) (he : ∀ a, e (g a) = d a) (hF : ∀ a, F a → F' (g a)) (h : RaT d F w cs) : RaT e F' w cs := by
  obtain ⟨a, ha, h⟩ := h
  exact ⟨g a, by rw [he]; exact ha, hF a h⟩
end
/-- A law's answer, from what its parameters are read as. -/
theorem CallOK.law {P : Program} {G : Glo} {f : FuncId} {args : List AV} (h : CallOK P G f args (.imm (.bool true))) {w : World} {vs : List Value} (hg : GloOK G (fun ad => w.cell? ad)) (hl : vs.length = args.length) (hv : ∀ (i : Nat) (a : AV) (v : Value), args[i]? = some a → vs[i]? = some v → Rep0 (fun ad => w.cell? ad) a v) :
    Calls P f vs.toArray w fun e w' => e = .returned (.bool true) ∧ Below w.heap.size w w' := by
  refine (h.run w (fun ad => w.cell? ad) vs (fun ad v h => h) hg hl hv).mono ?_
  rintro e w' ⟨v, V', rfl, hgr, hx⟩
  obtain rfl := hx.imm_inv
  exact ⟨rfl, hgr.bel.below⟩
theorem arg_agg {w : World} {l : List AV} {cs : Array Value} (h : RepL w l cs.toList) : Rep0 (fun ad => w.cell? ad) (.agg l) (.agg cs) := .agg l cs.toList h.len h.one h.rep
theorem reps_nil {V : View} : ∀ (i : Nat) (a : AV) (v : Value), ([] : List AV)[i]? = some a → ([] : List Value)[i]? = some v → Rep0 V a v := fun i a v h => by simp at h
theorem reps_cons {V : View} {a : AV} {v : Value} {l : List AV} {vs : List Value} (h : Rep0 V a v) (t : ∀ (i : Nat) (a : AV) (v : Value), l[i]? = some a → vs[i]? = some v → Rep0 V a v) : ∀ (i : Nat) (b : AV) (u : Value), (a :: l)[i]? = some b → (v :: vs)[i]? = some u → Rep0 V b u
  | 0, b, u, p, q => by simp at p q; subst p; subst q; exact h
  | i + 1, b, u, p, q => t i b u (by simpa using p) (by simpa using q)
end Go.Proofs.Ytdcabfonjmeajaa.Abs
set_option linter.unusedVariables false
set_option linter.unusedSimpArgs false
namespace Go.Proofs.Ytdcabfonjmeajaa.POrder
open Go.RowKit Go.Proofs.YtdcabfonjmeajaaW.PrintWords Go.Proofs.YtdcabfonjmeajaaW.PrintLast Go.Proofs.YtdcabfonjmeajaaW.PrintMore Go.Proofs.Ytdcabfonjmeajaa.Abs
open Go.Deep
structure S24 where
  f0 : Int
  f1 : Int
  f2 : List (S41)
def z24 : S24 := ⟨(0 : Int), (0 : Int), ([] : List (S41))⟩
def eS24 (x : S24) : List AV := [.imm (.int .i64 x.f0), .imm (.int .i64 x.f1), vS41 x.f2]
def ok62 (x : S62) : Prop := (fun n : Int => (Lit.int .i64 n).wf = true) x.f0 ∧ (fun n : Int => (Lit.int .i64 n).wf = true) x.f1
set_option maxRecDepth 100000 in
theorem ra62 : Ra Try.prog eS62 ok62 62 := by
  intro H enc w fuel cs x h
  obtain ⟨xs, n, _, _, hl, hlen, hf⟩ := DataW.trod_struct Try.underlying62 h
  have hC : Try.prog.cellsOf 62 = 2 := by kernel_rfl
  rw [hC] at hl
  exact rat_iso (g := fun p : Int × Int => (⟨p.1, p.2⟩ : S62)) (fun a => rfl) (fun a h => h) (rat_cons 0 1 (rat_field hlen hf 0 _ rfl 0 1 rfl (by kernel_rfl) (ra_int Try.underlying3)) (rat_last 1 1 (by omega) (rat_field hlen hf 1 _ rfl 1 1 rfl (by kernel_rfl) (ra_int Try.underlying3))))
def ok59 (x : S59) : Prop := (fun s : ByteArray => s.size ≤ maxLen) x.f0 ∧ (fun n : Int => (Lit.int .i64 n).wf = true) x.f1
set_option maxRecDepth 100000 in
theorem ra59 : Ra Try.prog eS59 ok59 59 := by
  intro H enc w fuel cs x h
  obtain ⟨xs, n, _, _, hl, hlen, hf⟩ := DataW.trod_struct Try.underlying59 h
  have hC : Try.prog.cellsOf 59 = 2 := by kernel_rfl
  rw [hC] at hl
  exact rat_iso (g := fun p : ByteArray × Int => (⟨p.1, p.2⟩ : S59)) (fun a => rfl) (fun a h => h) (rat_cons 0 1 (rat_field hlen hf 0 _ rfl 0 1 rfl (by kernel_rfl) (ra_string Try.underlying9)) (rat_last 1 1 (by omega) (rat_field hlen hf 1 _ rfl 1 1 rfl (by kernel_rfl) (ra_int Try.underlying3))))
def ok57 (x : S57) : Prop := (fun n : Int => (Lit.int .i64 n).wf = true) x.f0 ∧ (fun n : Int => (Lit.int .i64 n).wf = true) x.f1 ∧ (fun xs : List (S62) => xs.length ≤ maxLen ∧ ∀ x ∈ xs, ok62 x) x.f2 ∧ (fun xs : List (S59) => xs.length ≤ maxLen ∧ ∀ x ∈ xs, ok59 x) x.f3 ∧ (fun n : Int => (Lit.int .i64 n).wf = true) x.f4 ∧ (fun n : Int => (Lit.int .i64 n).wf = true) x.f5 ∧ (fun n : Int => (Lit.int .i64 n).wf = true) x.f6
set_option maxRecDepth 100000 in
theorem ra57 : Ra Try.prog eS57 ok57 57 := by
  intro H enc w fuel cs x h
  obtain ⟨xs, n, _, _, hl, hlen, hf⟩ := DataW.trod_struct Try.underlying57 h
  have hC : Try.prog.cellsOf 57 = 7 := by kernel_rfl
  rw [hC] at hl
  exact rat_iso (g := fun p : Int × Int × List (S62) × List (S59) × Int × Int × Int => (⟨p.1, p.2.1, p.2.2.1, p.2.2.2.1, p.2.2.2.2.1, p.2.2.2.2.2.1, p.2.2.2.2.2.2⟩ : S57)) (fun a => rfl) (fun a h => h) (rat_cons 0 1 (rat_field hlen hf 0 _ rfl 0 1 rfl (by kernel_rfl) (ra_int Try.underlying3)) (rat_cons 1 1 (rat_field hlen hf 1 _ rfl 1 1 rfl (by kernel_rfl) (ra_int Try.underlying3)) (rat_cons 2 1 (rat_field hlen hf 2 _ rfl 2 1 rfl (by kernel_rfl) (ra_slice (d := eS62) (sz := 2) (z := z62) Try.underlying54 (by kernel_rfl) (fun _ => rfl) ra62)) (rat_cons 3 1 (rat_field hlen hf 3 _ rfl 3 1 rfl (by kernel_rfl) (ra_slice (d := eS59) (sz := 2) (z := z59) Try.underlying55 (by kernel_rfl) (fun _ => rfl) ra59)) (rat_cons 4 1 (rat_field hlen hf 4 _ rfl 4 1 rfl (by kernel_rfl) (ra_int Try.underlying3)) (rat_cons 5 1 (rat_field hlen hf 5 _ rfl 5 1 rfl (by kernel_rfl) (ra_int Try.underlying3)) (rat_last 6 1 (by omega) (rat_field hlen hf 6 _ rfl 6 1 rfl (by kernel_rfl) (ra_int Try.underlying3)))))))))
def ok41 (x : S41) : Prop := (fun xs : List (S57) => xs.length ≤ maxLen ∧ ∀ x ∈ xs, ok57 x) x.f0
set_option maxRecDepth 100000 in
theorem ra41 : Ra Try.prog eS41 ok41 41 := by
  intro H enc w fuel cs x h
  obtain ⟨xs, n, _, _, hl, hlen, hf⟩ := DataW.trod_struct Try.underlying41 h
  have hC : Try.prog.cellsOf 41 = 1 := by kernel_rfl
  rw [hC] at hl
  exact rat_iso (g := fun p : List (S57) => (⟨p⟩ : S41)) (fun a => rfl) (fun a h => h) (rat_last 0 1 (by omega) (rat_field hlen hf 0 _ rfl 0 1 rfl (by kernel_rfl) (ra_slice (d := eS57) (sz := 7) (z := z57) Try.underlying39 (by kernel_rfl) (fun _ => rfl) ra57)))
def ok24 (x : S24) : Prop := (fun n : Int => (Lit.int .i64 n).wf = true) x.f0 ∧ (fun n : Int => (Lit.int .i64 n).wf = true) x.f1 ∧ (fun xs : List (S41) => xs.length ≤ maxLen ∧ ∀ x ∈ xs, ok41 x) x.f2
set_option maxRecDepth 100000 in
theorem ra24 : Ra Try.prog eS24 ok24 24 := by
  intro H enc w fuel cs x h
  obtain ⟨xs, n, _, _, hl, hlen, hf⟩ := DataW.trod_struct Try.underlying24 h
  have hC : Try.prog.cellsOf 24 = 3 := by kernel_rfl
  rw [hC] at hl
  exact rat_iso (g := fun p : Int × Int × List (S41) => (⟨p.1, p.2.1, p.2.2⟩ : S24)) (fun a => rfl) (fun a h => h) (rat_cons 0 1 (rat_field hlen hf 0 _ rfl 0 1 rfl (by kernel_rfl) (ra_int Try.underlying3)) (rat_cons 1 1 (rat_field hlen hf 1 _ rfl 1 1 rfl (by kernel_rfl) (ra_int Try.underlying3)) (rat_last 2 1 (by omega) (rat_field hlen hf 2 _ rfl 2 1 rfl (by kernel_rfl) (ra_slice (d := eS41) (sz := 1) (z := z41) Try.underlying22 (by kernel_rfl) (fun _ => rfl) ra41)))))
end Go.Proofs.Ytdcabfonjmeajaa.POrder
set_option linter.unusedVariables false
set_option linter.unusedSimpArgs false
namespace Go.Proofs.Ytdcabfonjmeajaa.POrder
open Go.RowKit Go.Proofs.YtdcabfonjmeajaaW.PrintWords Go.Proofs.YtdcabfonjmeajaaW.PrintLast Go.Proofs.YtdcabfonjmeajaaW.PrintMore Go.Proofs.Ytdcabfonjmeajaa.Abs
/-! ### boarderlaw13_Great: function 14 -/
mutual
def boarderlaw13_Great.l0 : Nat → Int → Int → Int → List (S41) → Option (Bool)
  | 0, _, _, _, _ => none
  | k + 1, x3, x102000, x102001, x102002 => if x3 < (x102002.length : Int) then (if 0 ≤ x3 then (if (((rd_T41 x102002 x3).f0).length : Int) > 10 then (some true) else (boarderlaw13_Great.l1 k x3 0 x102000 x102001 x102002)) else (none)) else (some false)
def boarderlaw13_Great.l1 : Nat → Int → Int → Int → Int → List (S41) → Option (Bool)
  | 0, _, _, _, _, _ => none
  | k + 1, x3, x4, x102000, x102001, x102002 => if 0 ≤ x3 then (if x3 < (x102002.length : Int) then (if x4 < (((rd_T41 x102002 x3).f0).length : Int) then (if 0 ≤ x4 then (if (((rd_T57 ((rd_T41 x102002 x3).f0) x4).f2).length : Int) > 20 then (boarderlaw13_Great.j2 k x3 x4 true x102000 x102001 x102002 ((rd_T57 ((rd_T41 x102002 x3).f0) x4).f0) ((rd_T57 ((rd_T41 x102002 x3).f0) x4).f1) ((rd_T57 ((rd_T41 x102002 x3).f0) x4).f2) ((rd_T57 ((rd_T41 x102002 x3).f0) x4).f3) ((rd_T57 ((rd_T41 x102002 x3).f0) x4).f4) ((rd_T57 ((rd_T41 x102002 x3).f0) x4).f5) ((rd_T57 ((rd_T41 x102002 x3).f0) x4).f6)) else (boarderlaw13_Great.j2 k x3 x4 (decide ((((rd_T57 ((rd_T41 x102002 x3).f0) x4).f3).length : Int) > 20)) x102000 x102001 x102002 ((rd_T57 ((rd_T41 x102002 x3).f0) x4).f0) ((rd_T57 ((rd_T41 x102002 x3).f0) x4).f1) ((rd_T57 ((rd_T41 x102002 x3).f0) x4).f2) ((rd_T57 ((rd_T41 x102002 x3).f0) x4).f3) ((rd_T57 ((rd_T41 x102002 x3).f0) x4).f4) ((rd_T57 ((rd_T41 x102002 x3).f0) x4).f5) ((rd_T57 ((rd_T41 x102002 x3).f0) x4).f6))) else (none)) else (boarderlaw13_Great.l0 k (wrap64 (x3 + 1)) x102000 x102001 x102002)) else (none)) else (none)
def boarderlaw13_Great.j2 : Nat → Int → Int → Bool → Int → Int → List (S41) → Int → Int → List (S62) → List (S59) → Int → Int → Int → Option (Bool)
  | 0, _, _, _, _, _, _, _, _, _, _, _, _, _ => none
  | k + 1, x3, x4, x55, x102000, x102001, x102002, x107000, x107001, x107002, x107003, x107004, x107005, x107006 => if x55 = true then (some true) else (boarderlaw13_Great.l2 k x3 x4 0 x102000 x102001 x102002 x107000 x107001 x107002 x107003 x107004 x107005 x107006)
def boarderlaw13_Great.l2 : Nat → Int → Int → Int → Int → Int → List (S41) → Int → Int → List (S62) → List (S59) → Int → Int → Int → Option (Bool)
  | 0, _, _, _, _, _, _, _, _, _, _, _, _, _ => none
  | k + 1, x3, x4, x6, x102000, x102001, x102002, x107000, x107001, x107002, x107003, x107004, x107005, x107006 => if x6 < (x107003.length : Int) then (if 0 ≤ x6 then (if (((rd_T59 x107003 x6).f0).size : Int) > 1000 then (some true) else (boarderlaw13_Great.l2 k x3 x4 (wrap64 (x6 + 1)) x102000 x102001 x102002 x107000 x107001 x107002 x107003 x107004 x107005 x107006)) else (none)) else (boarderlaw13_Great.l1 k x3 (wrap64 (x4 + 1)) x102000 x102001 x102002)
end
def boarderlaw13_Great.f (k : Nat) (a0_0 : Int) (a0_1 : Int) (l0_2 : List (S41)) : Option (Bool) := if (l0_2.length : Int) > 10 then (some true) else (boarderlaw13_Great.l0 k 0 a0_0 a0_1 l0_2)
noncomputable def boarderlaw13_Great.cx : Cx := ⟨Try.prog, tys, glo, 71, Try.f14, [.tmp 2], 0⟩
set_option maxHeartbeats 16000000 in
set_option maxRecDepth 100000 in
theorem boarderlaw13_Great.ok {k : Nat} {a0_0 : Int} {a0_1 : Int} {l0_2 : List (S41)} {r0 : Bool} (H : boarderlaw13_Great.f k a0_0 a0_1 l0_2 = some r0) : CallOK Try.prog glo 14 [.agg [.imm (.int .i64 a0_0), .imm (.int .i64 a0_1), vS41 l0_2]] (.imm (.bool r0)) := by
  unfold boarderlaw13_Great.f at H
  refine CallOK.of (c := boarderlaw13_Great.cx) Try.func14 (show (boarderlaw13_Great.cx).fn.body = some _ from rfl) rfl rfl (Nat.le_of_ble_eq_true rfl) rfl ?_
  repeat' (first
    | ((with_reducible have hJ : boarderlaw13_Great.j2 k _ _ _ _ _ _ _ _ _ _ _ _ _ = some _ := H); clear hJ; (rcases k with _ | k); (rw [boarderlaw13_Great.j2] at H; cases H); (rw [boarderlaw13_Great.j2] at H))
    | ((with_reducible have hJ : boarderlaw13_Great.j2 k0 _ _ _ _ _ _ _ _ _ _ _ _ _ = some _ := H); clear hJ; (rcases k0 with _ | k0); (rw [boarderlaw13_Great.j2] at H; cases H); (rw [boarderlaw13_Great.j2] at H))
    | ((with_reducible have hJ : boarderlaw13_Great.j2 k1 _ _ _ _ _ _ _ _ _ _ _ _ _ = some _ := H); clear hJ; (rcases k1 with _ | k1); (rw [boarderlaw13_Great.j2] at H; cases H); (rw [boarderlaw13_Great.j2] at H))
    | ((with_reducible have hJ : boarderlaw13_Great.j2 k2 _ _ _ _ _ _ _ _ _ _ _ _ _ = some _ := H); clear hJ; (rcases k2 with _ | k2); (rw [boarderlaw13_Great.j2] at H; cases H); (rw [boarderlaw13_Great.j2] at H))
    | ((with_reducible replace H := some_ite H); obtain ⟨_, H⟩ := H)
    | (with_reducible replace H := true_ite H)
    | (with_reducible replace H := false_ite H)
    | ((with_reducible have hb := bool_ite H); clear H; rcases hb with ⟨e_, H⟩ | ⟨e_, H⟩ <;> subst e_)
    | ((with_reducible apply ROps.pure); (case hop => rfl); (case hw => rfl); (case hdst => rfl); (case hd => rfl))
    | (with_reducible apply ROps.nil)
    | (with_reducible apply Runs.seq)
    | (with_reducible apply Runs.region tysOK)
    | (with_reducible apply Runs.block)
    | (with_reducible apply Runs.skip)
    | (with_reducible apply Runs.inBlock)
    | (with_reducible apply Runs.scope)
    | (with_reducible apply Runs.inScope)
    | (with_reducible apply Runs.label)
    | ((with_reducible apply Runs.condT); (case ho => rfl))
    | ((with_reducible apply Runs.condF); (case ho => rfl))
    | ((with_reducible apply Runs.exit); (case he => rfl))
    | ((with_reducible apply ROps.store); (case hop => rfl); (case hp => rfl); (case hR => rfl); (case hc => rfl); (case hl => first | (dsimp only [setR_one, setR, Nat.beq, cond]; done) | (dsimp only [setR_one, setR, Nat.beq, cond]; rfl) | rfl); (case hl' => first | (dsimp only [List.take, List.drop, List.append, List.nil_append, List.cons_append, List.map, List.length, Nat.add]; rfl) | rfl); (case hw => rfl); (all_goals try rfl))
    | ((with_reducible apply ROps.cmp); (case hop => exact cmpX); (case hw => rfl); (case hdst => rfl); (case hd => rfl); (all_goals (intro h; first | (replace H := ite_pos_ h H) | (replace H := ite_neg_ h H) | (replace H := dec_pos h H) | (replace H := dec_neg h H) | (replace H := dec_t h H) | (replace H := dec_f h H) | (replace H := ite_pos_ (Decidable.not_not.1 h) H) | ((try simp only [rd_T41, rd_T57, rd_T59, rdOf] at h); (try simp only [rd_T41, rd_T57, rd_T59, rdOf] at H); (rw [decide_eq_true h] at H)) | ((try simp only [rd_T41, rd_T57, rd_T59, rdOf] at h); (try simp only [rd_T41, rd_T57, rd_T59, rdOf] at H); (rw [decide_eq_false h] at H)) | ((try simp only [rd_T41, rd_T57, rd_T59, rdOf] at h); (try simp only [rd_T41, rd_T57, rd_T59, rdOf] at H); (rw [if_pos h] at H)) | ((try simp only [rd_T41, rd_T57, rd_T59, rdOf] at h); (try simp only [rd_T41, rd_T57, rd_T59, rdOf] at H); (rw [if_neg h] at H)) | contradiction | skip)))
    | ((with_reducible apply ROps.val); (case hop => exact valX); (case hw => rfl); (case hdst => rfl); (case hd => rfl))
    | ((with_reducible apply ROps.idx); (case hop => rfl); (case hx => rfl); (case hi => rfl); (case he => rfl); (case hw => rfl); (case hdst => rfl); (case hd => rfl); (case h0 => first | assumption | omega); (case h1 => first | assumption | omega))
    | ((with_reducible apply ROps.alloc); (case hop => rfl); (case hw => rfl); (all_goals try rfl))
    | ((with_reducible apply ROps.box); (case hop => rfl); (case hx => rfl); (case hrf => rfl); (case hw => rfl); (all_goals try rfl))
    | ((with_reducible apply ROps.off); (case hw => rfl); (case hdst => rfl); (case hd => rfl))
    | ((with_reducible apply Runs.loopK1 ((fun i0 i1 i2 => fun kk (v0_3 : Int) => boarderlaw13_Great.l0 kk v0_3 i0 i1 i2) _ _ _) [1] [] (fun b v0_3 => [(3, .imm (.int .i64 v0_3))]) (fun v0_3 => []) _ _ [] H); (case h0 => intros; rfl); (any_goals (clear H; intro k0 hk0 ih0 v0_3 H; replace H : boarderlaw13_Great.l0 (k0 + 1) v0_3 _ _ _ = some _ := H; rw [boarderlaw13_Great.l0] at H)))
    | (with_reducible apply ih0 _ _ [] _ _ (by omega) H)
    | ((with_reducible apply Runs.loopK1 ((fun i0 i1 i2 i3 => fun kk (v1_4 : Int) => boarderlaw13_Great.l1 kk i0 v1_4 i1 i2 i3) _ _ _ _) [1, 3] [] (fun b v1_4 => [(4, .imm (.int .i64 v1_4))]) (fun v1_4 => []) _ _ [] H); (case h0 => intros; rfl); (any_goals (clear H; intro k1 hk1 ih1 v1_4 H; replace H : boarderlaw13_Great.l1 (k1 + 1) _ v1_4 _ _ _ = some _ := H; rw [boarderlaw13_Great.l1] at H)))
    | (with_reducible apply ih1 _ _ [] _ _ (by omega) H)
    | ((with_reducible apply Runs.loopK1 ((fun i0 i1 i2 i3 i4 i5 i6 i7 i8 i9 i10 i11 => fun kk (v2_6 : Int) => boarderlaw13_Great.l2 kk i0 i1 v2_6 i2 i3 i4 i5 i6 i7 i8 i9 i10 i11) _ _ _ _ _ _ _ _ _ _ _ _) [1, 3, 4, 5] [] (fun b v2_6 => [(6, .imm (.int .i64 v2_6))]) (fun v2_6 => []) _ _ [] H); (case h0 => intros; rfl); (any_goals (clear H; intro k2 hk2 ih2 v2_6 H; replace H : boarderlaw13_Great.l2 (k2 + 1) _ _ v2_6 _ _ _ _ _ _ _ _ _ _ = some _ := H; rw [boarderlaw13_Great.l2] at H)))
    | (with_reducible apply ih2 _ _ [] _ _ (by omega) H)
    | ((with_reducible apply Runs.retP tysOK); (case hrs => rfl); (case h => rfl); (case hr => (cases H; exact refX)); (case hx => rfl))
    | exact leRX)
end Go.Proofs.Ytdcabfonjmeajaa.POrder
set_option linter.unusedVariables false
set_option linter.unusedSimpArgs false
namespace Go.Proofs.Ytdcabfonjmeajaa.POrder
open Go.RowKit Go.Proofs.YtdcabfonjmeajaaW.PrintWords Go.Proofs.YtdcabfonjmeajaaW.PrintLast Go.Proofs.YtdcabfonjmeajaaW.PrintMore Go.Proofs.Ytdcabfonjmeajaa.Abs
/-! ### addr_Right: function 64 -/
def addr_Right.f (a0 : Int) : Option (Bool) := if a0 ≥ 0 then (some (decide (a0 ≤ 4294967295))) else (some false)
noncomputable def addr_Right.cx : Cx := ⟨Try.prog, tys, glo, 9, Try.f64, [.tmp 2], 0⟩
set_option maxHeartbeats 16000000 in
set_option maxRecDepth 100000 in
theorem addr_Right.ok {a0 : Int} {r0 : Bool} (H : addr_Right.f a0 = some r0) : CallOK Try.prog glo 64 [.imm (.int .i64 a0)] (.imm (.bool r0)) := by
  unfold addr_Right.f at H
  refine CallOK.of (c := addr_Right.cx) Try.func64 (show (addr_Right.cx).fn.body = some _ from rfl) rfl rfl (Nat.le_of_ble_eq_true rfl) rfl ?_
  repeat' (first
    | ((with_reducible replace H := some_ite H); obtain ⟨_, H⟩ := H)
    | (with_reducible replace H := true_ite H)
    | (with_reducible replace H := false_ite H)
    | ((with_reducible have hb := bool_ite H); clear H; rcases hb with ⟨e_, H⟩ | ⟨e_, H⟩ <;> subst e_)
    | ((with_reducible apply ROps.pure); (case hop => rfl); (case hw => rfl); (case hdst => rfl); (case hd => rfl))
    | (with_reducible apply ROps.nil)
    | (with_reducible apply Runs.seq)
    | (with_reducible apply Runs.region tysOK)
    | (with_reducible apply Runs.scope)
    | (with_reducible apply Runs.inScope)
    | (with_reducible apply Runs.label)
    | ((with_reducible apply ROps.cmp); (case hop => exact cmpX); (case hw => rfl); (case hdst => rfl); (case hd => rfl); (all_goals (intro h; first | (replace H := ite_pos_ h H) | (replace H := ite_neg_ h H) | (replace H := dec_pos h H) | (replace H := dec_neg h H) | (replace H := dec_t h H) | (replace H := dec_f h H) | (replace H := ite_pos_ (Decidable.not_not.1 h) H) | ((try simp only [rdOf] at h); (try simp only [rdOf] at H); (rw [decide_eq_true h] at H)) | ((try simp only [rdOf] at h); (try simp only [rdOf] at H); (rw [decide_eq_false h] at H)) | ((try simp only [rdOf] at h); (try simp only [rdOf] at H); (rw [if_pos h] at H)) | ((try simp only [rdOf] at h); (try simp only [rdOf] at H); (rw [if_neg h] at H)) | contradiction | skip)))
    | ((with_reducible apply ROps.off); (case hw => rfl); (case hdst => rfl); (case hd => rfl))
    | ((with_reducible apply Runs.retP tysOK); (case hrs => rfl); (case h => rfl); (case hr => (cases H; exact refX)); (case hx => rfl))
    | exact leRX)
end Go.Proofs.Ytdcabfonjmeajaa.POrder
set_option linter.unusedVariables false
set_option linter.unusedSimpArgs false
namespace Go.Proofs.Ytdcabfonjmeajaa.POrder
open Go.RowKit Go.Proofs.YtdcabfonjmeajaaW.PrintWords Go.Proofs.YtdcabfonjmeajaaW.PrintLast Go.Proofs.YtdcabfonjmeajaaW.PrintMore Go.Proofs.Ytdcabfonjmeajaa.Abs
/-! ### conf_within: function 65 -/
def conf_within.f (a0 : Int) (a1 : Int) (a2 : Int) : Option (Bool) := if a0 ≥ a1 then (some (decide (a0 ≤ a2))) else (some false)
noncomputable def conf_within.cx : Cx := ⟨Try.prog, tys, glo, 15, Try.f65, [.tmp 6], 0⟩
set_option maxHeartbeats 16000000 in
set_option maxRecDepth 100000 in
theorem conf_within.ok {a0 : Int} {a1 : Int} {a2 : Int} {r0 : Bool} (H : conf_within.f a0 a1 a2 = some r0) : CallOK Try.prog glo 65 [.imm (.int .i64 a0), .imm (.int .i64 a1), .imm (.int .i64 a2)] (.imm (.bool r0)) := by
  unfold conf_within.f at H
  refine CallOK.of (c := conf_within.cx) Try.func65 (show (conf_within.cx).fn.body = some _ from rfl) rfl rfl (Nat.le_of_ble_eq_true rfl) rfl ?_
  repeat' (first
    | ((with_reducible replace H := some_ite H); obtain ⟨_, H⟩ := H)
    | (with_reducible replace H := true_ite H)
    | (with_reducible replace H := false_ite H)
    | ((with_reducible have hb := bool_ite H); clear H; rcases hb with ⟨e_, H⟩ | ⟨e_, H⟩ <;> subst e_)
    | ((with_reducible apply ROps.pure); (case hop => rfl); (case hw => rfl); (case hdst => rfl); (case hd => rfl))
    | (with_reducible apply ROps.nil)
    | (with_reducible apply Runs.seq)
    | (with_reducible apply Runs.region tysOK)
    | (with_reducible apply Runs.scope)
    | (with_reducible apply Runs.inScope)
    | (with_reducible apply Runs.label)
    | ((with_reducible apply ROps.cmp); (case hop => exact cmpX); (case hw => rfl); (case hdst => rfl); (case hd => rfl); (all_goals (intro h; first | (replace H := ite_pos_ h H) | (replace H := ite_neg_ h H) | (replace H := dec_pos h H) | (replace H := dec_neg h H) | (replace H := dec_t h H) | (replace H := dec_f h H) | (replace H := ite_pos_ (Decidable.not_not.1 h) H) | ((try simp only [rdOf] at h); (try simp only [rdOf] at H); (rw [decide_eq_true h] at H)) | ((try simp only [rdOf] at h); (try simp only [rdOf] at H); (rw [decide_eq_false h] at H)) | ((try simp only [rdOf] at h); (try simp only [rdOf] at H); (rw [if_pos h] at H)) | ((try simp only [rdOf] at h); (try simp only [rdOf] at H); (rw [if_neg h] at H)) | contradiction | skip)))
    | ((with_reducible apply ROps.off); (case hw => rfl); (case hdst => rfl); (case hd => rfl))
    | ((with_reducible apply Runs.retP tysOK); (case hrs => rfl); (case h => rfl); (case hr => (cases H; exact refX)); (case hx => rfl))
    | exact leRX)
end Go.Proofs.Ytdcabfonjmeajaa.POrder
set_option linter.unusedVariables false
set_option linter.unusedSimpArgs false
namespace Go.Proofs.Ytdcabfonjmeajaa.POrder
open Go.RowKit Go.Proofs.YtdcabfonjmeajaaW.PrintWords Go.Proofs.YtdcabfonjmeajaaW.PrintLast Go.Proofs.YtdcabfonjmeajaaW.PrintMore Go.Proofs.Ytdcabfonjmeajaa.Abs
/-! ### conf_spots: function 66 -/
mutual
def conf_spots.l0 : Nat → List (S66) → List (S41) → Int → Int → Option ((List (S66)))
  | 0, _, _, _, _ => none
  | k + 1, x3, x9, x10, x11 => if x11 < x10 then (if 0 ≤ x11 then (if x11 < (x9.length : Int) then (conf_spots.l1 k x3 x11 x9 x10 x11 ((rd_T41 x9 x11).f0) (((rd_T41 x9 x11).f0).length : Int) 0) else (none)) else (none)) else (some x3)
def conf_spots.l1 : Nat → List (S66) → Int → List (S41) → Int → Int → List (S57) → Int → Int → Option ((List (S66)))
  | 0, _, _, _, _, _, _, _, _ => none
  | k + 1, x3, x4, x9, x10, x11, x17, x18, x19 => if x19 < x18 then (if 0 ≤ x19 then (if x19 < (x17.length : Int) then (if x3.length < 1353245080339 then (conf_spots.l1 k (x3 ++ [(⟨x4, x19, (⟨(rd_T57 x17 x19).f0, (rd_T57 x17 x19).f1, (rd_T57 x17 x19).f2, (rd_T57 x17 x19).f3, (rd_T57 x17 x19).f4, (rd_T57 x17 x19).f5, (rd_T57 x17 x19).f6⟩ : S57)⟩ : S66)]) x4 x9 x10 x11 x17 x18 (wrap64 (x19 + 1))) else (none)) else (none)) else (none)) else (conf_spots.l0 k x3 x9 x10 (wrap64 (x11 + 1)))
end
def conf_spots.f (k : Nat) (a0_0 : Int) (a0_1 : Int) (l0_2 : List (S41)) : Option ((List (S66))) := conf_spots.l0 k ([] : List (S66)) l0_2 (l0_2.length : Int) 0
noncomputable def conf_spots.cx : Cx := ⟨Try.prog, tys, glo, 34, Try.f66, [.tmp 2], 0⟩
set_option maxHeartbeats 16000000 in
set_option maxRecDepth 100000 in
theorem conf_spots.ok {k : Nat} {a0_0 : Int} {a0_1 : Int} {l0_2 : List (S41)} {r0 : List (S66)} (H : conf_spots.f k a0_0 a0_1 l0_2 = some r0) : CallOK Try.prog glo 66 [.agg [.imm (.int .i64 a0_0), .imm (.int .i64 a0_1), vS41 l0_2]] (vS66 r0) := by
  unfold conf_spots.f at H
  refine CallOK.of (c := conf_spots.cx) Try.func66 (show (conf_spots.cx).fn.body = some _ from rfl) rfl rfl (Nat.le_of_ble_eq_true rfl) rfl ?_
  repeat' (first
    | ((with_reducible replace H := some_ite H); obtain ⟨_, H⟩ := H)
    | (with_reducible replace H := true_ite H)
    | (with_reducible replace H := false_ite H)
    | ((with_reducible have hb := bool_ite H); clear H; rcases hb with ⟨e_, H⟩ | ⟨e_, H⟩ <;> subst e_)
    | ((with_reducible apply ROps.pure); (case hop => rfl); (case hw => rfl); (case hdst => rfl); (case hd => rfl))
    | (with_reducible apply ROps.nil)
    | (with_reducible apply Runs.seq)
    | (with_reducible apply Runs.region tysOK)
    | (with_reducible apply Runs.block)
    | (with_reducible apply Runs.skip)
    | (with_reducible apply Runs.inBlock)
    | (with_reducible apply Runs.scope)
    | (with_reducible apply Runs.inScope)
    | (with_reducible apply Runs.label)
    | ((with_reducible apply Runs.condT); (case ho => rfl))
    | ((with_reducible apply Runs.condF); (case ho => rfl))
    | ((with_reducible apply Runs.exit); (case he => rfl))
    | ((with_reducible apply ROps.store); (case hop => rfl); (case hp => rfl); (case hR => rfl); (case hc => rfl); (case hl => first | (dsimp only [setR_one, setR, Nat.beq, cond]; done) | (dsimp only [setR_one, setR, Nat.beq, cond]; rfl) | rfl); (case hl' => first | (dsimp only [List.take, List.drop, List.append, List.nil_append, List.cons_append, List.map, List.length, Nat.add]; rfl) | rfl); (case hw => rfl); (all_goals try rfl))
    | ((with_reducible apply ROps.cmp); (case hop => exact cmpX); (case hw => rfl); (case hdst => rfl); (case hd => rfl); (all_goals (intro h; first | (replace H := ite_pos_ h H) | (replace H := ite_neg_ h H) | (replace H := dec_pos h H) | (replace H := dec_neg h H) | (replace H := dec_t h H) | (replace H := dec_f h H) | (replace H := ite_pos_ (Decidable.not_not.1 h) H) | ((try simp only [rd_T41, rd_T57, rdOf] at h); (try simp only [rd_T41, rd_T57, rdOf] at H); (rw [decide_eq_true h] at H)) | ((try simp only [rd_T41, rd_T57, rdOf] at h); (try simp only [rd_T41, rd_T57, rdOf] at H); (rw [decide_eq_false h] at H)) | ((try simp only [rd_T41, rd_T57, rdOf] at h); (try simp only [rd_T41, rd_T57, rdOf] at H); (rw [if_pos h] at H)) | ((try simp only [rd_T41, rd_T57, rdOf] at h); (try simp only [rd_T41, rd_T57, rdOf] at H); (rw [if_neg h] at H)) | contradiction | skip)))
    | ((with_reducible apply ROps.val); (case hop => exact valX); (case hw => rfl); (case hdst => rfl); (case hd => rfl))
    | ((with_reducible apply ROps.idx); (case hop => rfl); (case hx => rfl); (case hi => rfl); (case he => rfl); (case hw => rfl); (case hdst => rfl); (case hd => rfl); (case h0 => first | assumption | omega); (case h1 => first | assumption | omega))
    | ((with_reducible apply ROps.alloc); (case hop => rfl); (case hw => rfl); (all_goals try rfl))
    | ((with_reducible apply ROps.box); (case hop => rfl); (case hx => rfl); (case hrf => rfl); (case hw => rfl); (all_goals try rfl))
    | ((with_reducible apply ROps.lit); (case hop => rfl); (case hti => rfl); (case hsz => rfl); (case hl => rfl); (case hrf => rfl); (case hw => rfl); (all_goals try rfl))
    | ((with_reducible apply ROps.app); (case hop => rfl); (case hti => rfl); (case hsz => rfl); (case hs => rfl); (case hR => rfl); (case hx => rfl); (case hb => constructor <;> ((try simp only [maxLen, List.length_nil, List.length_cons, List.length_append] at *); omega)); (case hw => rfl); (all_goals try rfl))
    | ((with_reducible apply ROps.appN); (case hop => rfl); (case hti => rfl); (case hsz => rfl); (case hs => rfl); (case hx => rfl); (case hb => constructor <;> ((try simp only [maxLen, List.length_nil, List.length_cons, List.length_append] at *); omega)); (case hw => rfl); (all_goals try rfl))
    | ((with_reducible apply Runs.loopK2 ((fun i0 i1 => fun kk (v0_3 : List (S66)) (v0_11 : Int) => conf_spots.l0 kk v0_3 i0 i1 v0_11) _ _) [9, 10] [] (fun b v0_3 v0_11 => [(3, .own (b + 0) (v0_3).length 9 (rowsE eS66 z66 v0_3)), (11, .imm (.int .i64 v0_11))]) (fun v0_3 v0_11 => [.arr 66 9 (v0_3).length]) _ _ _ [_] H); (case h0 => intros; rfl); (any_goals (clear H; intro k0 hk0 ih0 v0_3 v0_11 H; replace H : conf_spots.l0 (k0 + 1) v0_3 _ _ v0_11 = some _ := H; rw [conf_spots.l0] at H)))
    | (with_reducible apply ih0 _ _ _ [_] _ _ (by omega) H)
    | ((with_reducible apply Runs.loopK2 ((fun i0 i1 i2 i3 i4 i5 => fun kk (v1_3 : List (S66)) (v1_19 : Int) => conf_spots.l1 kk v1_3 i0 i1 i2 i3 i4 i5 v1_19) _ _ _ _ _ _) [4, 9, 10, 11, 17, 18] [] (fun b v1_3 v1_19 => [(3, .own (b + 0) (v1_3).length 9 (rowsE eS66 z66 v1_3)), (19, .imm (.int .i64 v1_19))]) (fun v1_3 v1_19 => [.arr 66 9 (v1_3).length]) _ _ _ [_] H); (case h0 => intros; rfl); (any_goals (clear H; intro k1 hk1 ih1 v1_3 v1_19 H; replace H : conf_spots.l1 (k1 + 1) v1_3 _ _ _ _ _ _ v1_19 = some _ := H; rw [conf_spots.l1] at H)))
    | (with_reducible apply ih1 _ _ _ [_] _ _ (by omega) H)
    | ((with_reducible apply Runs.retP tysOK); (case hrs => rfl); (case h => rfl); (case hr => (cases H; exact refX)); (case hx => rfl))
    | exact leRX)
end Go.Proofs.Ytdcabfonjmeajaa.POrder
set_option linter.unusedVariables false
set_option linter.unusedSimpArgs false
namespace Go.Proofs.Ytdcabfonjmeajaa.POrder
open Go.RowKit Go.Proofs.YtdcabfonjmeajaaW.PrintWords Go.Proofs.YtdcabfonjmeajaaW.PrintLast Go.Proofs.YtdcabfonjmeajaaW.PrintMore Go.Proofs.Ytdcabfonjmeajaa.Abs
/-! ### addr_mask: function 76 -/
def addr_mask.f (a0 : Int) : Option (Int) := if 0 ≤ (wrap64 (32 - a0)) then (some (Go.bits .andNot .i64 4294967295 (wrap64 ((shl .i64 1 (wrap64 (32 - a0))) - 1)))) else (none)
noncomputable def addr_mask.cx : Cx := ⟨Try.prog, tys, glo, 8, Try.f76, [.tmp 2], 0⟩
set_option maxHeartbeats 16000000 in
set_option maxRecDepth 100000 in
theorem addr_mask.ok {a0 : Int} {r0 : Int} (H : addr_mask.f a0 = some r0) : CallOK Try.prog glo 76 [.imm (.int .i64 a0)] (.imm (.int .i64 r0)) := by
  unfold addr_mask.f at H
  refine CallOK.of (c := addr_mask.cx) Try.func76 (show (addr_mask.cx).fn.body = some _ from rfl) rfl rfl (Nat.le_of_ble_eq_true rfl) rfl ?_
  repeat' (first
    | ((with_reducible replace H := some_ite H); obtain ⟨_, H⟩ := H)
    | (with_reducible replace H := true_ite H)
    | (with_reducible replace H := false_ite H)
    | ((with_reducible have hb := bool_ite H); clear H; rcases hb with ⟨e_, H⟩ | ⟨e_, H⟩ <;> subst e_)
    | ((with_reducible apply ROps.pure); (case hop => rfl); (case hw => rfl); (case hdst => rfl); (case hd => rfl))
    | (with_reducible apply ROps.nil)
    | (with_reducible apply Runs.seq)
    | (with_reducible apply Runs.region tysOK)
    | (with_reducible apply Runs.scope)
    | (with_reducible apply Runs.inScope)
    | (with_reducible apply Runs.label)
    | ((with_reducible apply ROps.val); (case hop => exact valX); (case hw => rfl); (case hdst => rfl); (case hd => rfl))
    | ((with_reducible apply Runs.retP tysOK); (case hrs => rfl); (case h => rfl); (case hr => (cases H; exact refX)); (case hx => rfl))
    | exact leRX)
end Go.Proofs.Ytdcabfonjmeajaa.POrder
set_option linter.unusedVariables false
set_option linter.unusedSimpArgs false
namespace Go.Proofs.Ytdcabfonjmeajaa.POrder
open Go.RowKit Go.Proofs.YtdcabfonjmeajaaW.PrintWords Go.Proofs.YtdcabfonjmeajaaW.PrintLast Go.Proofs.YtdcabfonjmeajaaW.PrintMore Go.Proofs.Ytdcabfonjmeajaa.Abs
/-! ### addr_Fair: function 75 -/
def addr_Fair.f (a0 : Int) (a1 : Int) : Option (Bool) := if a1 ≥ 0 then (if a1 ≤ 32 then ((addr_Right.f a0).bind fun t116 => (if t116 = true then ((addr_mask.f a1).bind fun t117 => (some ((Go.bits .andNot .i64 a0 t117) == 0))) else (some false))) else (some false)) else (some false)
noncomputable def addr_Fair.cx : Cx := ⟨Try.prog, tys, glo, 22, Try.f75, [.tmp 4], 0⟩
set_option maxHeartbeats 16000000 in
set_option maxRecDepth 100000 in
theorem addr_Fair.ok {a0 : Int} {a1 : Int} {r0 : Bool} (H : addr_Fair.f a0 a1 = some r0) : CallOK Try.prog glo 75 [.imm (.int .i64 a0), .imm (.int .i64 a1)] (.imm (.bool r0)) := by
  unfold addr_Fair.f at H
  refine CallOK.of (c := addr_Fair.cx) Try.func75 (show (addr_Fair.cx).fn.body = some _ from rfl) rfl rfl (Nat.le_of_ble_eq_true rfl) rfl ?_
  repeat' (first
    | ((with_reducible replace H := some_ite H); obtain ⟨_, H⟩ := H)
    | (with_reducible replace H := true_ite H)
    | (with_reducible replace H := false_ite H)
    | ((with_reducible have hb := bool_ite H); clear H; rcases hb with ⟨e_, H⟩ | ⟨e_, H⟩ <;> subst e_)
    | ((with_reducible apply ROps.pure); (case hop => rfl); (case hw => rfl); (case hdst => rfl); (case hd => rfl))
    | (with_reducible apply ROps.nil)
    | (with_reducible apply Runs.seq)
    | (with_reducible apply Runs.region tysOK)
    | (with_reducible apply Runs.scope)
    | (with_reducible apply Runs.inScope)
    | (with_reducible apply Runs.label)
    | ((with_reducible apply ROps.cmp); (case hop => exact cmpX); (case hw => rfl); (case hdst => rfl); (case hd => rfl); (all_goals (intro h; first | (replace H := ite_pos_ h H) | (replace H := ite_neg_ h H) | (replace H := dec_pos h H) | (replace H := dec_neg h H) | (replace H := dec_t h H) | (replace H := dec_f h H) | (replace H := beq_pos h H) | (replace H := beq_neg h H) | (replace H := beq_tt h H) | (replace H := beq_ff h H) | (replace H := ite_pos_ (Decidable.not_not.1 h) H) | (replace H := beq_pos (Decidable.not_not.1 h) H) | (replace H := beq_tt (Decidable.not_not.1 h) H) | ((try simp only [rdOf] at h); (try simp only [rdOf] at H); (rw [decide_eq_true h] at H)) | ((try simp only [rdOf] at h); (try simp only [rdOf] at H); (rw [decide_eq_false h] at H)) | ((try simp only [rdOf] at h); (try simp only [rdOf] at H); (rw [beq_t h] at H)) | ((try simp only [rdOf] at h); (try simp only [rdOf] at H); (rw [beq_f h] at H)) | ((try simp only [rdOf] at h); (try simp only [rdOf] at H); (rw [beq_t (Decidable.not_not.1 h)] at H)) | ((try simp only [rdOf] at h); (try simp only [rdOf] at H); (rw [if_pos h] at H)) | ((try simp only [rdOf] at h); (try simp only [rdOf] at H); (rw [if_neg h] at H)) | contradiction | skip)))
    | ((with_reducible apply ROps.val); (case hop => exact valX); (case hw => rfl); (case hdst => rfl); (case hd => rfl))
    | ((first | ((with_reducible apply ROps.eqS); case hop => rfl) | ((with_reducible apply ROps.neS); case hop => rfl)); (case ht => rfl); (case hx => rfl); (case hy => rfl); (case hl => rfl); (case hr => rfl); (case hw => rfl); (case hdst => rfl); (case hd => rfl); (all_goals (intro h; first | (replace H := ite_posF H h) | (replace H := ite_negF H h) | (dsimp only [eqP, eqA] at h) | skip)))
    | ((with_reducible apply ROps.off); (case hw => rfl); (case hdst => rfl); (case hd => rfl))
    | ((with_reducible have hB : (addr_Right.f _).bind _ = some _ := H); clear hB; (replace H := bind_some' H); (obtain ⟨t_, H1, H⟩ := H); (try dsimp only at H); (with_reducible apply ROps.call); (case hop => rfl); (case hc => exact addr_Right.ok H1); (case ha => exact argsX); (case hw => rfl); (case hdst => rfl); (case hd => rfl))
    | ((with_reducible have hB : (addr_mask.f _).bind _ = some _ := H); clear hB; (replace H := bind_some' H); (obtain ⟨t_, H1, H⟩ := H); (try dsimp only at H); (with_reducible apply ROps.call); (case hop => rfl); (case hc => exact addr_mask.ok H1); (case ha => exact argsX); (case hw => rfl); (case hdst => rfl); (case hd => rfl))
    | ((with_reducible apply Runs.retP tysOK); (case hrs => rfl); (case h => rfl); (case hr => (cases H; exact refX)); (case hx => rfl))
    | exact leRX)
end Go.Proofs.Ytdcabfonjmeajaa.POrder
set_option linter.unusedVariables false
set_option linter.unusedSimpArgs false
namespace Go.Proofs.Ytdcabfonjmeajaa.POrder
open Go.RowKit Go.Proofs.YtdcabfonjmeajaaW.PrintWords Go.Proofs.YtdcabfonjmeajaaW.PrintLast Go.Proofs.YtdcabfonjmeajaaW.PrintMore Go.Proofs.Ytdcabfonjmeajaa.Abs
/-! ### key_Right: function 80 -/
def key_Right.f (a0 : ByteArray) : Option (Bool) := if (a0.size : Int) = 0 then (some false) else (if 0 < (a0.size : Int) then (if (bt a0 0) = 105 then (if (wrap64 ((a0.size : Int) - 1)) ≥ 2 then (some (decide ((wrap64 ((a0.size : Int) - 1)) ≤ 255))) else (some false)) else (if (bt a0 0) = 104 then (if (wrap64 ((a0.size : Int) - 1)) ≥ 2 then (some (decide ((wrap64 ((a0.size : Int) - 1)) ≤ 17))) else (some false)) else (some false))) else (none))
noncomputable def key_Right.cx : Cx := ⟨Try.prog, tys, glo, 28, Try.f80, [.tmp 2], 0⟩
set_option maxHeartbeats 16000000 in
set_option maxRecDepth 100000 in
theorem key_Right.ok {a0 : ByteArray} {r0 : Bool} (H : key_Right.f a0 = some r0) : CallOK Try.prog glo 80 [.imm (.string a0)] (.imm (.bool r0)) := by
  unfold key_Right.f at H
  refine CallOK.of (c := key_Right.cx) Try.func80 (show (key_Right.cx).fn.body = some _ from rfl) rfl rfl (Nat.le_of_ble_eq_true rfl) rfl ?_
  repeat' (first
    | ((with_reducible replace H := some_ite H); obtain ⟨_, H⟩ := H)
    | (with_reducible replace H := true_ite H)
    | (with_reducible replace H := false_ite H)
    | ((with_reducible have hb := bool_ite H); clear H; rcases hb with ⟨e_, H⟩ | ⟨e_, H⟩ <;> subst e_)
    | ((with_reducible apply ROps.pure); (case hop => rfl); (case hw => rfl); (case hdst => rfl); (case hd => rfl))
    | (with_reducible apply ROps.nil)
    | (with_reducible apply Runs.seq)
    | (with_reducible apply Runs.region tysOK)
    | (with_reducible apply Runs.block)
    | (with_reducible apply Runs.skip)
    | (with_reducible apply Runs.inBlock)
    | (with_reducible apply Runs.scope)
    | (with_reducible apply Runs.inScope)
    | (with_reducible apply Runs.label)
    | ((with_reducible apply Runs.condT); (case ho => rfl))
    | ((with_reducible apply Runs.condF); (case ho => rfl))
    | ((with_reducible apply ROps.cmp); (case hop => exact cmpX); (case hw => rfl); (case hdst => rfl); (case hd => rfl); (all_goals (intro h; first | (replace H := ite_pos_ h H) | (replace H := ite_neg_ h H) | (replace H := dec_pos h H) | (replace H := dec_neg h H) | (replace H := dec_t h H) | (replace H := dec_f h H) | (replace H := beq_pos h H) | (replace H := beq_neg h H) | (replace H := beq_tt h H) | (replace H := beq_ff h H) | (replace H := ite_pos_ (Decidable.not_not.1 h) H) | (replace H := beq_pos (Decidable.not_not.1 h) H) | (replace H := beq_tt (Decidable.not_not.1 h) H) | ((try simp only [rdOf] at h); (try simp only [rdOf] at H); (rw [decide_eq_true h] at H)) | ((try simp only [rdOf] at h); (try simp only [rdOf] at H); (rw [decide_eq_false h] at H)) | ((try simp only [rdOf] at h); (try simp only [rdOf] at H); (rw [beq_t h] at H)) | ((try simp only [rdOf] at h); (try simp only [rdOf] at H); (rw [beq_f h] at H)) | ((try simp only [rdOf] at h); (try simp only [rdOf] at H); (rw [bne_t h] at H)) | ((try simp only [rdOf] at h); (try simp only [rdOf] at H); (rw [bne_f h] at H)) | ((try simp only [rdOf] at h); (try simp only [rdOf] at H); (rw [beq_t (Decidable.not_not.1 h)] at H)) | ((try simp only [rdOf] at h); (try simp only [rdOf] at H); (rw [bne_f (Decidable.not_not.1 h)] at H)) | ((try simp only [rdOf] at h); (try simp only [rdOf] at H); (rw [if_pos h] at H)) | ((try simp only [rdOf] at h); (try simp only [rdOf] at H); (rw [if_neg h] at H)) | contradiction | skip)))
    | ((with_reducible apply ROps.val); (case hop => exact valX); (case hw => rfl); (case hdst => rfl); (case hd => rfl))
    | ((first | ((with_reducible apply ROps.eqS); case hop => rfl) | ((with_reducible apply ROps.neS); case hop => rfl)); (case ht => rfl); (case hx => rfl); (case hy => rfl); (case hl => rfl); (case hr => rfl); (case hw => rfl); (case hdst => rfl); (case hd => rfl); (all_goals (intro h; first | (replace H := ite_posF H h) | (replace H := ite_negF H h) | (dsimp only [eqP, eqA] at h) | skip)))
    | ((with_reducible apply ROps.off); (case hw => rfl); (case hdst => rfl); (case hd => rfl))
    | ((with_reducible apply Runs.retP tysOK); (case hrs => rfl); (case h => rfl); (case hr => (cases H; exact refX)); (case hx => rfl))
    | exact leRX)
end Go.Proofs.Ytdcabfonjmeajaa.POrder
set_option linter.unusedVariables false
set_option linter.unusedSimpArgs false
namespace Go.Proofs.Ytdcabfonjmeajaa.POrder
open Go.RowKit Go.Proofs.YtdcabfonjmeajaaW.PrintWords Go.Proofs.YtdcabfonjmeajaaW.PrintLast Go.Proofs.YtdcabfonjmeajaaW.PrintMore Go.Proofs.Ytdcabfonjmeajaa.Abs
/-! ### conf_fair: function 67 -/
mutual
def conf_fair.j0 : Nat → Bool → Int → Int → List (S62) → List (S59) → Int → Int → Int → Option (Bool)
  | 0, _, _, _, _, _, _, _, _ => none
  | k + 1, x42, x119000, x119001, x119002, x119003, x119004, x119005, x119006 => if x42 = true then (some false) else (conf_fair.l0 k x119002 (x119002.length : Int) 0 x119000 x119001 x119002 x119003 x119004 x119005 x119006)
def conf_fair.l0 : Nat → List (S62) → Int → Int → Int → Int → List (S62) → List (S59) → Int → Int → Int → Option (Bool)
  | 0, _, _, _, _, _, _, _, _, _, _ => none
  | k + 1, x44, x45, x46, x119000, x119001, x119002, x119003, x119004, x119005, x119006 => if x46 < x45 then (if 0 ≤ x46 then (if x46 < (x44.length : Int) then (if ((rd_T62 x44 x46).f0) > ((rd_T62 x44 x46).f1) then (some false) else (conf_fair.l0 k x44 x45 (wrap64 (x46 + 1)) x119000 x119001 x119002 x119003 x119004 x119005 x119006)) else (none)) else (none)) else (conf_fair.l1 k x119003 (x119003.length : Int) 0)
def conf_fair.l1 : Nat → List (S59) → Int → Int → Option (Bool)
  | 0, _, _, _ => none
  | k + 1, x57, x58, x59 => if x59 < x58 then (if 0 ≤ x59 then (if x59 < (x57.length : Int) then ((key_Right.f ((rd_T59 x57 x59).f0)).bind fun t127 => (if t127 = true then (conf_fair.l1 k x57 x58 (wrap64 (x59 + 1))) else (some false))) else (none)) else (none)) else (some true)
end
def conf_fair.f (k : Nat) (a0_0 : Int) (a0_1 : Int) (l0_2 : List (S62)) (l0_3 : List (S59)) (a0_4 : Int) (a0_5 : Int) (a0_6 : Int) : Option (Bool) := (addr_Fair.f a0_0 a0_1).bind fun t119 => (if t119 = true then ((conf_within.f a0_1 8 30).bind fun t120 => (if t120 = true then (if (l0_2.length : Int) > 4 then (conf_fair.j0 k true a0_0 a0_1 l0_2 l0_3 a0_4 a0_5 a0_6) else (if (l0_3.length : Int) > 8 then (conf_fair.j0 k true a0_0 a0_1 l0_2 l0_3 a0_4 a0_5 a0_6) else ((conf_within.f a0_4 0 99).bind fun t121 => (if t121 = true then ((conf_within.f a0_6 1 2147483648).bind fun t122 => (conf_fair.j0 k (!t122) a0_0 a0_1 l0_2 l0_3 a0_4 a0_5 a0_6)) else (conf_fair.j0 k true a0_0 a0_1 l0_2 l0_3 a0_4 a0_5 a0_6))))) else (conf_fair.j0 k true a0_0 a0_1 l0_2 l0_3 a0_4 a0_5 a0_6))) else (conf_fair.j0 k true a0_0 a0_1 l0_2 l0_3 a0_4 a0_5 a0_6))
noncomputable def conf_fair.cx : Cx := ⟨Try.prog, tys, glo, 68, Try.f67, [.tmp 2], 0⟩
set_option maxHeartbeats 16000000 in
set_option maxRecDepth 100000 in
theorem conf_fair.ok {k : Nat} {a0_0 : Int} {a0_1 : Int} {l0_2 : List (S62)} {l0_3 : List (S59)} {a0_4 : Int} {a0_5 : Int} {a0_6 : Int} {r0 : Bool} (H : conf_fair.f k a0_0 a0_1 l0_2 l0_3 a0_4 a0_5 a0_6 = some r0) : CallOK Try.prog glo 67 [.agg [.imm (.int .i64 a0_0), .imm (.int .i64 a0_1), vS62 l0_2, vS59 l0_3, .imm (.int .i64 a0_4), .imm (.int .i64 a0_5), .imm (.int .i64 a0_6)]] (.imm (.bool r0)) := by
  unfold conf_fair.f at H
  refine CallOK.of (c := conf_fair.cx) Try.func67 (show (conf_fair.cx).fn.body = some _ from rfl) rfl rfl (Nat.le_of_ble_eq_true rfl) rfl ?_
  repeat' (first
    | ((with_reducible have hJ : conf_fair.j0 k _ _ _ _ _ _ _ _ = some _ := H); clear hJ; (rcases k with _ | k); (rw [conf_fair.j0] at H; cases H); (rw [conf_fair.j0] at H))
    | ((with_reducible have hJ : conf_fair.j0 k0 _ _ _ _ _ _ _ _ = some _ := H); clear hJ; (rcases k0 with _ | k0); (rw [conf_fair.j0] at H; cases H); (rw [conf_fair.j0] at H))
    | ((with_reducible have hJ : conf_fair.j0 k1 _ _ _ _ _ _ _ _ = some _ := H); clear hJ; (rcases k1 with _ | k1); (rw [conf_fair.j0] at H; cases H); (rw [conf_fair.j0] at H))
    | ((with_reducible replace H := some_ite H); obtain ⟨_, H⟩ := H)
    | (with_reducible replace H := true_ite H)
    | (with_reducible replace H := false_ite H)
    | ((with_reducible have hb := bool_ite H); clear H; rcases hb with ⟨e_, H⟩ | ⟨e_, H⟩ <;> subst e_)
    | ((with_reducible have hb := bool_iteN H); clear H; rcases hb with ⟨e_, H⟩ | ⟨e_, H⟩ <;> subst e_)
    | ((with_reducible apply ROps.pure); (case hop => rfl); (case hw => rfl); (case hdst => rfl); (case hd => rfl))
    | (with_reducible apply ROps.nil)
    | (with_reducible apply Runs.seq)
    | (with_reducible apply Runs.region tysOK)
    | (with_reducible apply Runs.block)
    | (with_reducible apply Runs.skip)
    | (with_reducible apply Runs.inBlock)
    | (with_reducible apply Runs.scope)
    | (with_reducible apply Runs.inScope)
    | (with_reducible apply Runs.label)
    | ((with_reducible apply Runs.condT); (case ho => rfl))
    | ((with_reducible apply Runs.condF); (case ho => rfl))
    | ((with_reducible apply Runs.exit); (case he => rfl))
    | ((with_reducible apply ROps.store); (case hop => rfl); (case hp => rfl); (case hR => rfl); (case hc => rfl); (case hl => first | (dsimp only [setR_one, setR, Nat.beq, cond]; done) | (dsimp only [setR_one, setR, Nat.beq, cond]; rfl) | rfl); (case hl' => first | (dsimp only [List.take, List.drop, List.append, List.nil_append, List.cons_append, List.map, List.length, Nat.add]; rfl) | rfl); (case hw => rfl); (all_goals try rfl))
    | ((with_reducible apply ROps.cmp); (case hop => exact cmpX); (case hw => rfl); (case hdst => rfl); (case hd => rfl); (all_goals (intro h; first | (replace H := ite_pos_ h H) | (replace H := ite_neg_ h H) | (replace H := dec_pos h H) | (replace H := dec_neg h H) | (replace H := dec_t h H) | (replace H := dec_f h H) | (replace H := ite_pos_ (Decidable.not_not.1 h) H) | ((try simp only [rd_T59, rd_T62, rdOf] at h); (try simp only [rd_T59, rd_T62, rdOf] at H); (rw [decide_eq_true h] at H)) | ((try simp only [rd_T59, rd_T62, rdOf] at h); (try simp only [rd_T59, rd_T62, rdOf] at H); (rw [decide_eq_false h] at H)) | ((try simp only [rd_T59, rd_T62, rdOf] at h); (try simp only [rd_T59, rd_T62, rdOf] at H); (rw [if_pos h] at H)) | ((try simp only [rd_T59, rd_T62, rdOf] at h); (try simp only [rd_T59, rd_T62, rdOf] at H); (rw [if_neg h] at H)) | contradiction | skip)))
    | ((with_reducible apply ROps.val); (case hop => exact valX); (case hw => rfl); (case hdst => rfl); (case hd => rfl))
    | ((with_reducible apply ROps.idx); (case hop => rfl); (case hx => rfl); (case hi => rfl); (case he => rfl); (case hw => rfl); (case hdst => rfl); (case hd => rfl); (case h0 => first | assumption | omega); (case h1 => first | assumption | omega))
    | ((with_reducible apply ROps.alloc); (case hop => rfl); (case hw => rfl); (all_goals try rfl))
    | ((with_reducible apply ROps.box); (case hop => rfl); (case hx => rfl); (case hrf => rfl); (case hw => rfl); (all_goals try rfl))
    | ((with_reducible apply ROps.off); (case hw => rfl); (case hdst => rfl); (case hd => rfl))
    | ((with_reducible have hB : (conf_within.f _ _ _).bind _ = some _ := H); clear hB; (replace H := bind_some' H); (obtain ⟨t_, H1, H⟩ := H); (try dsimp only at H); (with_reducible apply ROps.call); (case hop => rfl); (case hc => exact conf_within.ok H1); (case ha => exact argsX); (case hw => rfl); (case hdst => rfl); (case hd => rfl))
    | ((with_reducible have hB : (addr_Fair.f _ _).bind _ = some _ := H); clear hB; (replace H := bind_some' H); (obtain ⟨t_, H1, H⟩ := H); (try dsimp only at H); (with_reducible apply ROps.call); (case hop => rfl); (case hc => exact addr_Fair.ok H1); (case ha => exact argsX); (case hw => rfl); (case hdst => rfl); (case hd => rfl))
    | ((with_reducible have hB : (key_Right.f _).bind _ = some _ := H); clear hB; (replace H := bind_some' H); (obtain ⟨t_, H1, H⟩ := H); (try dsimp only at H); (with_reducible apply ROps.call); (case hop => rfl); (case hc => exact key_Right.ok H1); (case ha => exact argsX); (case hw => rfl); (case hdst => rfl); (case hd => rfl))
    | ((with_reducible apply Runs.loopK1 ((fun i0 i1 i2 i3 i4 i5 i6 i7 i8 => fun kk (v0_46 : Int) => conf_fair.l0 kk i0 i1 v0_46 i2 i3 i4 i5 i6 i7 i8) _ _ _ _ _ _ _ _ _) [1, 44, 45] [] (fun b v0_46 => [(46, .imm (.int .i64 v0_46))]) (fun v0_46 => []) _ _ [] H); (case h0 => intros; rfl); (any_goals (clear H; intro k0 hk0 ih0 v0_46 H; replace H : conf_fair.l0 (k0 + 1) _ _ v0_46 _ _ _ _ _ _ _ = some _ := H; rw [conf_fair.l0] at H)))
    | (with_reducible apply ih0 _ _ [] _ _ (by omega) H)
    | ((with_reducible apply Runs.loopK1 ((fun i0 i1 => fun kk (v1_59 : Int) => conf_fair.l1 kk i0 i1 v1_59) _ _) [57, 58] [] (fun b v1_59 => [(59, .imm (.int .i64 v1_59))]) (fun v1_59 => []) _ _ [] H); (case h0 => intros; rfl); (any_goals (clear H; intro k1 hk1 ih1 v1_59 H; replace H : conf_fair.l1 (k1 + 1) _ _ v1_59 = some _ := H; rw [conf_fair.l1] at H)))
    | (with_reducible apply ih1 _ _ [] _ _ (by omega) H)
    | ((with_reducible apply Runs.retP tysOK); (case hrs => rfl); (case h => rfl); (case hr => (cases H; exact refX)); (case hx => rfl))
    | exact leRX)
end Go.Proofs.Ytdcabfonjmeajaa.POrder
set_option linter.unusedVariables false
set_option linter.unusedSimpArgs false
namespace Go.Proofs.Ytdcabfonjmeajaa.POrder
open Go.RowKit Go.Proofs.YtdcabfonjmeajaaW.PrintWords Go.Proofs.YtdcabfonjmeajaaW.PrintLast Go.Proofs.YtdcabfonjmeajaaW.PrintMore Go.Proofs.Ytdcabfonjmeajaa.Abs
/-! ### conf_form: function 40 -/
mutual
def conf_form.j0 : Nat → Bool → Int → Int → List (S41) → Option (Bool)
  | 0, _, _, _, _ => none
  | k + 1, x22, x129000, x129001, x129002 => if x22 = true then (some false) else (conf_form.l0 k x129002 (x129002.length : Int) 0 x129000 x129001 x129002)
def conf_form.l0 : Nat → List (S41) → Int → Int → Int → Int → List (S41) → Option (Bool)
  | 0, _, _, _, _, _, _ => none
  | k + 1, x24, x25, x26, x129000, x129001, x129002 => if x26 < x25 then (if 0 ≤ x26 then (if x26 < (x24.length : Int) then ((conf_within.f (((rd_T41 x24 x26).f0).length : Int) 1 4).bind fun t133 => (if t133 = true then (conf_form.l0 k x24 x25 (wrap64 (x26 + 1)) x129000 x129001 x129002) else (some false))) else (none)) else (none)) else ((conf_spots.f k x129000 x129001 x129002).bind fun t134 => (conf_form.l1 k t134 (t134.length : Int) 0))
def conf_form.l1 : Nat → List (S66) → Int → Int → Option (Bool)
  | 0, _, _, _ => none
  | k + 1, x37, x38, x39 => if x39 < x38 then (if 0 ≤ x39 then (if x39 < (x37.length : Int) then ((conf_fair.f k ((rd_T66 x37 x39).f2.f0) ((rd_T66 x37 x39).f2.f1) ((rd_T66 x37 x39).f2.f2) ((rd_T66 x37 x39).f2.f3) ((rd_T66 x37 x39).f2.f4) ((rd_T66 x37 x39).f2.f5) ((rd_T66 x37 x39).f2.f6)).bind fun t139 => (if t139 = true then (conf_form.l1 k x37 x38 (wrap64 (x39 + 1))) else (some false))) else (none)) else (none)) else (some true)
end
def conf_form.f (k : Nat) (a0_0 : Int) (a0_1 : Int) (l0_2 : List (S41)) : Option (Bool) := (addr_Right.f a0_0).bind fun t129 => (if t129 = true then ((conf_within.f a0_1 1 2147483648).bind fun t130 => (if t130 = true then (conf_form.j0 k (decide ((l0_2.length : Int) > 4)) a0_0 a0_1 l0_2) else (conf_form.j0 k true a0_0 a0_1 l0_2))) else (conf_form.j0 k true a0_0 a0_1 l0_2))
noncomputable def conf_form.cx : Cx := ⟨Try.prog, tys, glo, 48, Try.f40, [.tmp 2], 0⟩
set_option maxHeartbeats 16000000 in
set_option maxRecDepth 100000 in
theorem conf_form.ok {k : Nat} {a0_0 : Int} {a0_1 : Int} {l0_2 : List (S41)} {r0 : Bool} (H : conf_form.f k a0_0 a0_1 l0_2 = some r0) : CallOK Try.prog glo 40 [.agg [.imm (.int .i64 a0_0), .imm (.int .i64 a0_1), vS41 l0_2]] (.imm (.bool r0)) := by
  unfold conf_form.f at H
  refine CallOK.of (c := conf_form.cx) Try.func40 (show (conf_form.cx).fn.body = some _ from rfl) rfl rfl (Nat.le_of_ble_eq_true rfl) rfl ?_
  repeat' (first
    | ((with_reducible have hJ : conf_form.j0 k _ _ _ _ = some _ := H); clear hJ; (rcases k with _ | k); (rw [conf_form.j0] at H; cases H); (rw [conf_form.j0] at H))
    | ((with_reducible have hJ : conf_form.j0 k0 _ _ _ _ = some _ := H); clear hJ; (rcases k0 with _ | k0); (rw [conf_form.j0] at H; cases H); (rw [conf_form.j0] at H))
    | ((with_reducible have hJ : conf_form.j0 k1 _ _ _ _ = some _ := H); clear hJ; (rcases k1 with _ | k1); (rw [conf_form.j0] at H; cases H); (rw [conf_form.j0] at H))
    | ((with_reducible replace H := some_ite H); obtain ⟨_, H⟩ := H)
    | (with_reducible replace H := some_bind_ H)
    | (with_reducible replace H := true_ite H)
    | (with_reducible replace H := false_ite H)
    | ((with_reducible have hb := bool_ite H); clear H; rcases hb with ⟨e_, H⟩ | ⟨e_, H⟩ <;> subst e_)
    | ((with_reducible apply ROps.pure); (case hop => rfl); (case hw => rfl); (case hdst => rfl); (case hd => rfl))
    | (with_reducible apply ROps.nil)
    | (with_reducible apply Runs.seq)
    | (with_reducible apply Runs.region tysOK)
    | (with_reducible apply Runs.block)
    | (with_reducible apply Runs.skip)
    | (with_reducible apply Runs.inBlock)
    | (with_reducible apply Runs.scope)
    | (with_reducible apply Runs.inScope)
    | (with_reducible apply Runs.label)
    | ((with_reducible apply Runs.condT); (case ho => rfl))
    | ((with_reducible apply Runs.condF); (case ho => rfl))
    | ((with_reducible apply Runs.exit); (case he => rfl))
    | ((with_reducible apply ROps.store); (case hop => rfl); (case hp => rfl); (case hR => rfl); (case hc => rfl); (case hl => first | (dsimp only [setR_one, setR, Nat.beq, cond]; done) | (dsimp only [setR_one, setR, Nat.beq, cond]; rfl) | rfl); (case hl' => first | (dsimp only [List.take, List.drop, List.append, List.nil_append, List.cons_append, List.map, List.length, Nat.add]; rfl) | rfl); (case hw => rfl); (all_goals try rfl))
    | ((with_reducible apply ROps.cmp); (case hop => exact cmpX); (case hw => rfl); (case hdst => rfl); (case hd => rfl); (all_goals (intro h; first | (replace H := ite_pos_ h H) | (replace H := ite_neg_ h H) | (replace H := dec_pos h H) | (replace H := dec_neg h H) | (replace H := dec_t h H) | (replace H := dec_f h H) | (replace H := ite_pos_ (Decidable.not_not.1 h) H) | ((try simp only [rd_T41, rd_T66, rdOf] at h); (try simp only [rd_T41, rd_T66, rdOf] at H); (rw [decide_eq_true h] at H)) | ((try simp only [rd_T41, rd_T66, rdOf] at h); (try simp only [rd_T41, rd_T66, rdOf] at H); (rw [decide_eq_false h] at H)) | ((try simp only [rd_T41, rd_T66, rdOf] at h); (try simp only [rd_T41, rd_T66, rdOf] at H); (rw [if_pos h] at H)) | ((try simp only [rd_T41, rd_T66, rdOf] at h); (try simp only [rd_T41, rd_T66, rdOf] at H); (rw [if_neg h] at H)) | contradiction | skip)))
    | ((with_reducible apply ROps.val); (case hop => exact valX); (case hw => rfl); (case hdst => rfl); (case hd => rfl))
    | ((with_reducible apply ROps.idx); (case hop => rfl); (case hx => rfl); (case hi => rfl); (case he => rfl); (case hw => rfl); (case hdst => rfl); (case hd => rfl); (case h0 => first | assumption | omega); (case h1 => first | assumption | omega))
    | ((with_reducible apply ROps.alloc); (case hop => rfl); (case hw => rfl); (all_goals try rfl))
    | ((with_reducible apply ROps.box); (case hop => rfl); (case hx => rfl); (case hrf => rfl); (case hw => rfl); (all_goals try rfl))
    | ((with_reducible apply ROps.off); (case hw => rfl); (case hdst => rfl); (case hd => rfl))
    | ((with_reducible have hB : (addr_Right.f _).bind _ = some _ := H); clear hB; (replace H := bind_some' H); (obtain ⟨t_, H1, H⟩ := H); (try dsimp only at H); (with_reducible apply ROps.call); (case hop => rfl); (case hc => exact addr_Right.ok H1); (case ha => exact argsX); (case hw => rfl); (case hdst => rfl); (case hd => rfl))
    | ((with_reducible have hB : (conf_within.f _ _ _).bind _ = some _ := H); clear hB; (replace H := bind_some' H); (obtain ⟨t_, H1, H⟩ := H); (try dsimp only at H); (with_reducible apply ROps.call); (case hop => rfl); (case hc => exact conf_within.ok H1); (case ha => exact argsX); (case hw => rfl); (case hdst => rfl); (case hd => rfl))
    | ((with_reducible have hB : (conf_spots.f _ _ _ _).bind _ = some _ := H); clear hB; (replace H := bind_some' H); (obtain ⟨t_, H1, H⟩ := H); (try dsimp only at H); (with_reducible apply ROps.call); (case hop => rfl); (case hc => exact conf_spots.ok H1); (case ha => exact argsX); (case hw => rfl); (case hdst => rfl); (case hd => rfl))
    | ((with_reducible have hB : (conf_fair.f _ _ _ _ _ _ _ _).bind _ = some _ := H); clear hB; (replace H := bind_some' H); (obtain ⟨t_, H1, H⟩ := H); (try dsimp only at H); (with_reducible apply ROps.call); (case hop => rfl); (case hc => exact conf_fair.ok H1); (case ha => exact argsX); (case hw => rfl); (case hdst => rfl); (case hd => rfl))
    | ((with_reducible apply Runs.loopK1 ((fun i0 i1 i2 i3 i4 => fun kk (v0_26 : Int) => conf_form.l0 kk i0 i1 v0_26 i2 i3 i4) _ _ _ _ _) [1, 24, 25] [] (fun b v0_26 => [(26, .imm (.int .i64 v0_26))]) (fun v0_26 => []) _ _ [] H); (case h0 => intros; rfl); (any_goals (clear H; intro k0 hk0 ih0 v0_26 H; replace H : conf_form.l0 (k0 + 1) _ _ v0_26 _ _ _ = some _ := H; rw [conf_form.l0] at H)))
    | (with_reducible apply ih0 _ _ [] _ _ (by omega) H)
    | ((with_reducible apply Runs.loopK1 ((fun i0 i1 => fun kk (v1_39 : Int) => conf_form.l1 kk i0 i1 v1_39) _ _) [37, 38] [] (fun b v1_39 => [(39, .imm (.int .i64 v1_39))]) (fun v1_39 => []) _ _ [] H); (case h0 => intros; rfl); (any_goals (clear H; intro k1 hk1 ih1 v1_39 H; replace H : conf_form.l1 (k1 + 1) _ _ v1_39 = some _ := H; rw [conf_form.l1] at H)))
    | (with_reducible apply ih1 _ _ [] _ _ (by omega) H)
    | ((with_reducible apply Runs.retP tysOK); (case hrs => rfl); (case h => rfl); (case hr => (cases H; exact refX)); (case hx => rfl))
    | exact leRX)
end Go.Proofs.Ytdcabfonjmeajaa.POrder
set_option linter.unusedVariables false
set_option linter.unusedSimpArgs false
namespace Go.Proofs.Ytdcabfonjmeajaa.POrder
open Go.RowKit Go.Proofs.YtdcabfonjmeajaaW.PrintWords Go.Proofs.YtdcabfonjmeajaaW.PrintLast Go.Proofs.YtdcabfonjmeajaaW.PrintMore Go.Proofs.Ytdcabfonjmeajaa.Abs
/-! ### conf_has: function 48 -/
def conf_has.f (a0_0 : Int) (a0_1 : Int) (a1 : Int) : Option (Bool) := (conf_within.f a1 a0_0 a0_1).bind fun t141 => (some t141)
noncomputable def conf_has.cx : Cx := ⟨Try.prog, tys, glo, 11, Try.f48, [.tmp 4], 0⟩
set_option maxHeartbeats 16000000 in
set_option maxRecDepth 100000 in
theorem conf_has.ok {a0_0 : Int} {a0_1 : Int} {a1 : Int} {r0 : Bool} (H : conf_has.f a0_0 a0_1 a1 = some r0) : CallOK Try.prog glo 48 [.agg [.imm (.int .i64 a0_0), .imm (.int .i64 a0_1)], .imm (.int .i64 a1)] (.imm (.bool r0)) := by
  unfold conf_has.f at H
  refine CallOK.of (c := conf_has.cx) Try.func48 (show (conf_has.cx).fn.body = some _ from rfl) rfl rfl (Nat.le_of_ble_eq_true rfl) rfl ?_
  repeat' (first
    | ((with_reducible replace H := some_ite H); obtain ⟨_, H⟩ := H)
    | ((with_reducible apply ROps.pure); (case hop => rfl); (case hw => rfl); (case hdst => rfl); (case hd => rfl))
    | (with_reducible apply ROps.nil)
    | (with_reducible apply Runs.seq)
    | (with_reducible apply Runs.region tysOK)
    | (with_reducible apply Runs.scope)
    | (with_reducible apply Runs.inScope)
    | (with_reducible apply Runs.label)
    | ((with_reducible apply ROps.box); (case hop => rfl); (case hx => rfl); (case hrf => rfl); (case hw => rfl); (all_goals try rfl))
    | ((with_reducible have hB : (conf_within.f _ _ _).bind _ = some _ := H); clear hB; (replace H := bind_some' H); (obtain ⟨t_, H1, H⟩ := H); (try dsimp only at H); (with_reducible apply ROps.call); (case hop => rfl); (case hc => exact conf_within.ok H1); (case ha => exact argsX); (case hw => rfl); (case hdst => rfl); (case hd => rfl))
    | ((with_reducible apply Runs.retP tysOK); (case hrs => rfl); (case h => rfl); (case hr => (cases H; exact refX)); (case hx => rfl))
    | exact leRX)
end Go.Proofs.Ytdcabfonjmeajaa.POrder
set_option linter.unusedVariables false
set_option linter.unusedSimpArgs false
namespace Go.Proofs.Ytdcabfonjmeajaa.POrder
open Go.RowKit Go.Proofs.YtdcabfonjmeajaaW.PrintWords Go.Proofs.YtdcabfonjmeajaaW.PrintLast Go.Proofs.YtdcabfonjmeajaaW.PrintMore Go.Proofs.Ytdcabfonjmeajaa.Abs
/-! ### addr_Has: function 49 -/
def addr_Has.f (a0 : Int) (a1 : Int) (a2 : Int) : Option (Bool) := (addr_Fair.f a0 a1).bind fun t142 => (if t142 = true then ((addr_Right.f a2).bind fun t143 => (if t143 = true then ((addr_mask.f a1).bind fun t144 => (some ((Go.bits .and .i64 a2 t144) == a0))) else (some false))) else (some false))
noncomputable def addr_Has.cx : Cx := ⟨Try.prog, tys, glo, 22, Try.f49, [.tmp 6], 0⟩
set_option maxHeartbeats 16000000 in
set_option maxRecDepth 100000 in
theorem addr_Has.ok {a0 : Int} {a1 : Int} {a2 : Int} {r0 : Bool} (H : addr_Has.f a0 a1 a2 = some r0) : CallOK Try.prog glo 49 [.imm (.int .i64 a0), .imm (.int .i64 a1), .imm (.int .i64 a2)] (.imm (.bool r0)) := by
  unfold addr_Has.f at H
  refine CallOK.of (c := addr_Has.cx) Try.func49 (show (addr_Has.cx).fn.body = some _ from rfl) rfl rfl (Nat.le_of_ble_eq_true rfl) rfl ?_
  repeat' (first
    | ((with_reducible replace H := some_ite H); obtain ⟨_, H⟩ := H)
    | (with_reducible replace H := some_bind_ H)
    | (with_reducible replace H := true_ite H)
    | (with_reducible replace H := false_ite H)
    | ((with_reducible have hb := bool_ite H); clear H; rcases hb with ⟨e_, H⟩ | ⟨e_, H⟩ <;> subst e_)
    | ((with_reducible apply ROps.pure); (case hop => rfl); (case hw => rfl); (case hdst => rfl); (case hd => rfl))
    | (with_reducible apply ROps.nil)
    | (with_reducible apply Runs.seq)
    | (with_reducible apply Runs.region tysOK)
    | (with_reducible apply Runs.scope)
    | (with_reducible apply Runs.inScope)
    | (with_reducible apply Runs.label)
    | ((with_reducible apply ROps.cmp); (case hop => exact cmpX); (case hw => rfl); (case hdst => rfl); (case hd => rfl); (all_goals (intro h; first | (replace H := ite_pos_ h H) | (replace H := ite_neg_ h H) | (replace H := dec_pos h H) | (replace H := dec_neg h H) | (replace H := dec_t h H) | (replace H := dec_f h H) | (replace H := beq_pos h H) | (replace H := beq_neg h H) | (replace H := beq_tt h H) | (replace H := beq_ff h H) | (replace H := ite_pos_ (Decidable.not_not.1 h) H) | (replace H := beq_pos (Decidable.not_not.1 h) H) | (replace H := beq_tt (Decidable.not_not.1 h) H) | ((try simp only [rdOf] at h); (try simp only [rdOf] at H); (rw [decide_eq_true h] at H)) | ((try simp only [rdOf] at h); (try simp only [rdOf] at H); (rw [decide_eq_false h] at H)) | ((try simp only [rdOf] at h); (try simp only [rdOf] at H); (rw [beq_t h] at H)) | ((try simp only [rdOf] at h); (try simp only [rdOf] at H); (rw [beq_f h] at H)) | ((try simp only [rdOf] at h); (try simp only [rdOf] at H); (rw [beq_t (Decidable.not_not.1 h)] at H)) | ((try simp only [rdOf] at h); (try simp only [rdOf] at H); (rw [if_pos h] at H)) | ((try simp only [rdOf] at h); (try simp only [rdOf] at H); (rw [if_neg h] at H)) | contradiction | skip)))
    | ((with_reducible apply ROps.val); (case hop => exact valX); (case hw => rfl); (case hdst => rfl); (case hd => rfl))
    | ((first | ((with_reducible apply ROps.eqS); case hop => rfl) | ((with_reducible apply ROps.neS); case hop => rfl)); (case ht => rfl); (case hx => rfl); (case hy => rfl); (case hl => rfl); (case hr => rfl); (case hw => rfl); (case hdst => rfl); (case hd => rfl); (all_goals (intro h; first | (replace H := ite_posF H h) | (replace H := ite_negF H h) | (dsimp only [eqP, eqA] at h) | skip)))
    | ((with_reducible apply ROps.off); (case hw => rfl); (case hdst => rfl); (case hd => rfl))
    | ((with_reducible have hB : (addr_Right.f _).bind _ = some _ := H); clear hB; (replace H := bind_some' H); (obtain ⟨t_, H1, H⟩ := H); (try dsimp only at H); (with_reducible apply ROps.call); (case hop => rfl); (case hc => exact addr_Right.ok H1); (case ha => exact argsX); (case hw => rfl); (case hdst => rfl); (case hd => rfl))
    | ((with_reducible have hB : (addr_Fair.f _ _).bind _ = some _ := H); clear hB; (replace H := bind_some' H); (obtain ⟨t_, H1, H⟩ := H); (try dsimp only at H); (with_reducible apply ROps.call); (case hop => rfl); (case hc => exact addr_Fair.ok H1); (case ha => exact argsX); (case hw => rfl); (case hdst => rfl); (case hd => rfl))
    | ((with_reducible have hB : (addr_mask.f _).bind _ = some _ := H); clear hB; (replace H := bind_some' H); (obtain ⟨t_, H1, H⟩ := H); (try dsimp only at H); (with_reducible apply ROps.call); (case hop => rfl); (case hc => exact addr_mask.ok H1); (case ha => exact argsX); (case hw => rfl); (case hdst => rfl); (case hd => rfl))
    | ((with_reducible apply Runs.retP tysOK); (case hrs => rfl); (case h => rfl); (case hr => (cases H; exact refX)); (case hx => rfl))
    | exact leRX)
end Go.Proofs.Ytdcabfonjmeajaa.POrder
set_option linter.unusedVariables false
set_option linter.unusedSimpArgs false
namespace Go.Proofs.Ytdcabfonjmeajaa.POrder
open Go.RowKit Go.Proofs.YtdcabfonjmeajaaW.PrintWords Go.Proofs.YtdcabfonjmeajaaW.PrintLast Go.Proofs.YtdcabfonjmeajaaW.PrintMore Go.Proofs.Ytdcabfonjmeajaa.Abs
/-! ### addr_Last: function 85 -/
def addr_Last.f (a0 : Int) (a1 : Int) : Option (Int × Int) := (addr_Fair.f a0 a1).bind fun t145 => (if t145 = true then ((addr_mask.f a1).bind fun t146 => (some (Go.bits .or .i64 a0 (Go.bits .andNot .i64 4294967295 t146), 0))) else (some (0, 1)))
noncomputable def addr_Last.cx : Cx := ⟨Try.prog, tys, glo, 15, Try.f85, [.tmp 4, .tmp 5], 0⟩
set_option maxHeartbeats 16000000 in
set_option maxRecDepth 100000 in
theorem addr_Last.ok {a0 : Int} {a1 : Int} {r0 : Int} {r1 : Int} (H : addr_Last.f a0 a1 = some (r0, r1)) : CallOK Try.prog glo 85 [.imm (.int .i64 a0), .imm (.int .i64 a1)] (.tup [.imm (.int .i64 r0), .imm (.int .i64 r1)]) := by
  unfold addr_Last.f at H
  refine CallOK.of (c := addr_Last.cx) Try.func85 (show (addr_Last.cx).fn.body = some _ from rfl) rfl rfl (Nat.le_of_ble_eq_true rfl) rfl ?_
  repeat' (first
    | ((with_reducible replace H := some_ite H); obtain ⟨_, H⟩ := H)
    | (with_reducible replace H := some_bind_ H)
    | (with_reducible replace H := true_ite H)
    | (with_reducible replace H := false_ite H)
    | ((with_reducible have hb := bool_ite H); clear H; rcases hb with ⟨e_, H⟩ | ⟨e_, H⟩ <;> subst e_)
    | ((with_reducible apply ROps.pure); (case hop => rfl); (case hw => rfl); (case hdst => rfl); (case hd => rfl))
    | (with_reducible apply ROps.nil)
    | (with_reducible apply Runs.seq)
    | (with_reducible apply Runs.region tysOK)
    | (with_reducible apply Runs.skip)
    | (with_reducible apply Runs.scope)
    | (with_reducible apply Runs.inScope)
    | (with_reducible apply Runs.label)
    | ((with_reducible apply Runs.condT); (case ho => rfl))
    | ((with_reducible apply Runs.condF); (case ho => rfl))
    | ((with_reducible apply ROps.val); (case hop => exact valX); (case hw => rfl); (case hdst => rfl); (case hd => rfl))
    | ((with_reducible have hB : (addr_Fair.f _ _).bind _ = some _ := H); clear hB; (replace H := bind_some' H); (obtain ⟨t_, H1, H⟩ := H); (try dsimp only at H); (with_reducible apply ROps.call); (case hop => rfl); (case hc => exact addr_Fair.ok H1); (case ha => exact argsX); (case hw => rfl); (case hdst => rfl); (case hd => rfl))
    | ((with_reducible have hB : (addr_mask.f _).bind _ = some _ := H); clear hB; (replace H := bind_some' H); (obtain ⟨t_, H1, H⟩ := H); (try dsimp only at H); (with_reducible apply ROps.call); (case hop => rfl); (case hc => exact addr_mask.ok H1); (case ha => exact argsX); (case hw => rfl); (case hdst => rfl); (case hd => rfl))
    | ((with_reducible apply Runs.retP tysOK); (case hrs => rfl); (case h => rfl); (case hr => (cases H; exact refX)); (case hx => rfl))
    | exact leRX)
end Go.Proofs.Ytdcabfonjmeajaa.POrder
set_option linter.unusedVariables false
set_option linter.unusedSimpArgs false
namespace Go.Proofs.Ytdcabfonjmeajaa.POrder
open Go.RowKit Go.Proofs.YtdcabfonjmeajaaW.PrintWords Go.Proofs.YtdcabfonjmeajaaW.PrintLast Go.Proofs.YtdcabfonjmeajaaW.PrintMore Go.Proofs.Ytdcabfonjmeajaa.Abs
/-! ### conf_inside: function 68 -/
def conf_inside.f (a0_0 : Int) (a0_1 : Int) (l0_2 : List (S62)) (l0_3 : List (S59)) (a0_4 : Int) (a0_5 : Int) (a0_6 : Int) (a1 : Int) : Option (Bool) := (addr_Last.f a0_0 a0_1).bind fun bt148 => (if a1 > a0_0 then (some (decide (a1 < bt148.1))) else (some false))
noncomputable def conf_inside.cx : Cx := ⟨Try.prog, tys, glo, 24, Try.f68, [.tmp 4], 0⟩
set_option maxHeartbeats 16000000 in
set_option maxRecDepth 100000 in
theorem conf_inside.ok {a0_0 : Int} {a0_1 : Int} {l0_2 : List (S62)} {l0_3 : List (S59)} {a0_4 : Int} {a0_5 : Int} {a0_6 : Int} {a1 : Int} {r0 : Bool} (H : conf_inside.f a0_0 a0_1 l0_2 l0_3 a0_4 a0_5 a0_6 a1 = some r0) : CallOK Try.prog glo 68 [.agg [.imm (.int .i64 a0_0), .imm (.int .i64 a0_1), vS62 l0_2, vS59 l0_3, .imm (.int .i64 a0_4), .imm (.int .i64 a0_5), .imm (.int .i64 a0_6)], .imm (.int .i64 a1)] (.imm (.bool r0)) := by
  unfold conf_inside.f at H
  refine CallOK.of (c := conf_inside.cx) Try.func68 (show (conf_inside.cx).fn.body = some _ from rfl) rfl rfl (Nat.le_of_ble_eq_true rfl) rfl ?_
  repeat' (first
    | ((with_reducible replace H := some_ite H); obtain ⟨_, H⟩ := H)
    | (with_reducible replace H := true_ite H)
    | (with_reducible replace H := false_ite H)
    | ((with_reducible have hb := bool_ite H); clear H; rcases hb with ⟨e_, H⟩ | ⟨e_, H⟩ <;> subst e_)
    | ((with_reducible apply ROps.pure); (case hop => rfl); (case hw => rfl); (case hdst => rfl); (case hd => rfl))
    | (with_reducible apply ROps.nil)
    | (with_reducible apply Runs.seq)
    | (with_reducible apply Runs.region tysOK)
    | (with_reducible apply Runs.scope)
    | (with_reducible apply Runs.inScope)
    | (with_reducible apply Runs.label)
    | ((with_reducible apply ROps.cmp); (case hop => exact cmpX); (case hw => rfl); (case hdst => rfl); (case hd => rfl); (all_goals (intro h; first | (replace H := ite_pos_ h H) | (replace H := ite_neg_ h H) | (replace H := dec_pos h H) | (replace H := dec_neg h H) | (replace H := dec_t h H) | (replace H := dec_f h H) | (replace H := ite_pos_ (Decidable.not_not.1 h) H) | ((try simp only [rdOf] at h); (try simp only [rdOf] at H); (rw [decide_eq_true h] at H)) | ((try simp only [rdOf] at h); (try simp only [rdOf] at H); (rw [decide_eq_false h] at H)) | ((try simp only [rdOf] at h); (try simp only [rdOf] at H); (rw [if_pos h] at H)) | ((try simp only [rdOf] at h); (try simp only [rdOf] at H); (rw [if_neg h] at H)) | contradiction | skip)))
    | ((with_reducible apply ROps.box); (case hop => rfl); (case hx => rfl); (case hrf => rfl); (case hw => rfl); (all_goals try rfl))
    | ((with_reducible apply ROps.off); (case hw => rfl); (case hdst => rfl); (case hd => rfl))
    | ((with_reducible have hB : (addr_Last.f _ _).bind _ = some _ := H); clear hB; (replace H := bind_some' H); (obtain ⟨⟨t_0, t_1⟩, H1, H⟩ := H); (try dsimp only at H); (with_reducible apply ROps.call); (case hop => rfl); (case hc => exact addr_Last.ok H1); (case ha => exact argsX); (case hw => rfl); (case hdst => rfl); (case hd => rfl))
    | ((with_reducible apply Runs.retP tysOK); (case hrs => rfl); (case h => rfl); (case hr => (cases H; exact refX)); (case hx => rfl))
    | exact leRX)
end Go.Proofs.Ytdcabfonjmeajaa.POrder
set_option linter.unusedVariables false
set_option linter.unusedSimpArgs false
namespace Go.Proofs.Ytdcabfonjmeajaa.POrder
open Go.RowKit Go.Proofs.YtdcabfonjmeajaaW.PrintWords Go.Proofs.YtdcabfonjmeajaaW.PrintLast Go.Proofs.YtdcabfonjmeajaaW.PrintMore Go.Proofs.Ytdcabfonjmeajaa.Abs
/-! ### conf_placed: function 41 -/
mutual
def conf_placed.l0 : Nat → List (S66) → Int → Int → Int → Int → List (S41) → Option (Bool)
  | 0, _, _, _, _, _, _ => none
  | k + 1, x10, x11, x12, x151000, x151001, x151002 => if x12 < x11 then (if 0 ≤ x12 then (if x12 < (x10.length : Int) then (conf_placed.l1 k x10 x11 x12 ((rd_T66 x10 x12).f2.f2) (((rd_T66 x10 x12).f2.f2).length : Int) 0 x151000 x151001 x151002 ((rd_T66 x10 x12).f0) ((rd_T66 x10 x12).f1) ((rd_T66 x10 x12).f2.f0) ((rd_T66 x10 x12).f2.f1) ((rd_T66 x10 x12).f2.f2) ((rd_T66 x10 x12).f2.f3) ((rd_T66 x10 x12).f2.f4) ((rd_T66 x10 x12).f2.f5) ((rd_T66 x10 x12).f2.f6)) else (none)) else (none)) else (some true)
def conf_placed.l1 : Nat → List (S66) → Int → Int → List (S62) → Int → Int → Int → Int → List (S41) → Int → Int → Int → Int → List (S62) → List (S59) → Int → Int → Int → Option (Bool)
  | 0, _, _, _, _, _, _, _, _, _, _, _, _, _, _, _, _, _, _ => none
  | k + 1, x10, x11, x12, x18, x19, x20, x151000, x151001, x151002, x156000, x156001, x156002, x156003, x156004, x156005, x156006, x156007, x156008 => if x20 < x19 then (if 0 ≤ x20 then (if x20 < (x18.length : Int) then ((conf_inside.f x156002 x156003 x156004 x156005 x156006 x156007 x156008 ((rd_T62 x18 x20).f0)).bind fun t158 => (if t158 = true then ((conf_inside.f x156002 x156003 x156004 x156005 x156006 x156007 x156008 ((rd_T62 x18 x20).f1)).bind fun t159 => (if t159 = true then ((conf_has.f ((rd_T62 x18 x20).f0) ((rd_T62 x18 x20).f1) x151000).bind fun t160 => (if t160 = true then (some false) else (conf_placed.l1 k x10 x11 x12 x18 x19 (wrap64 (x20 + 1)) x151000 x151001 x151002 x156000 x156001 x156002 x156003 x156004 x156005 x156006 x156007 x156008))) else (some false))) else (some false))) else (none)) else (none)) else (conf_placed.l2 k x10 x11 x12 x156005 (x156005.length : Int) 0 x151000 x151001 x151002 x156000 x156001 x156002 x156003 x156004 x156005 x156006 x156007 x156008)
def conf_placed.l2 : Nat → List (S66) → Int → Int → List (S59) → Int → Int → Int → Int → List (S41) → Int → Int → Int → Int → List (S62) → List (S59) → Int → Int → Int → Option (Bool)
  | 0, _, _, _, _, _, _, _, _, _, _, _, _, _, _, _, _, _, _ => none
  | k + 1, x10, x11, x12, x47, x48, x49, x151000, x151001, x151002, x156000, x156001, x156002, x156003, x156004, x156005, x156006, x156007, x156008 => if x49 < x48 then (if 0 ≤ x49 then (if x49 < (x47.length : Int) then ((conf_inside.f x156002 x156003 x156004 x156005 x156006 x156007 x156008 ((rd_T59 x47 x49).f1)).bind fun t163 => (if t163 = true then (if ((rd_T59 x47 x49).f1) = x151000 then (some false) else (conf_placed.l2 k x10 x11 x12 x47 x48 (wrap64 (x49 + 1)) x151000 x151001 x151002 x156000 x156001 x156002 x156003 x156004 x156005 x156006 x156007 x156008)) else (some false))) else (none)) else (none)) else (if x156007 = 0 then (conf_placed.l0 k x10 x11 (wrap64 (x12 + 1)) x151000 x151001 x151002) else ((addr_Has.f x156002 x156003 x156007).bind fun t164 => (if t164 = true then (conf_placed.l0 k x10 x11 (wrap64 (x12 + 1)) x151000 x151001 x151002) else (some false))))
end
def conf_placed.f (k : Nat) (a0_0 : Int) (a0_1 : Int) (l0_2 : List (S41)) : Option (Bool) := (conf_spots.f k a0_0 a0_1 l0_2).bind fun t151 => (conf_placed.l0 k t151 (t151.length : Int) 0 a0_0 a0_1 l0_2)
noncomputable def conf_placed.cx : Cx := ⟨Try.prog, tys, glo, 85, Try.f41, [.tmp 2], 0⟩
set_option maxHeartbeats 16000000 in
set_option maxRecDepth 100000 in
theorem conf_placed.ok {k : Nat} {a0_0 : Int} {a0_1 : Int} {l0_2 : List (S41)} {r0 : Bool} (H : conf_placed.f k a0_0 a0_1 l0_2 = some r0) : CallOK Try.prog glo 41 [.agg [.imm (.int .i64 a0_0), .imm (.int .i64 a0_1), vS41 l0_2]] (.imm (.bool r0)) := by
  unfold conf_placed.f at H
  refine CallOK.of (c := conf_placed.cx) Try.func41 (show (conf_placed.cx).fn.body = some _ from rfl) rfl rfl (Nat.le_of_ble_eq_true rfl) rfl ?_
  repeat' (first
    | ((with_reducible replace H := some_ite H); obtain ⟨_, H⟩ := H)
    | (with_reducible replace H := true_ite H)
    | (with_reducible replace H := false_ite H)
    | ((with_reducible have hb := bool_ite H); clear H; rcases hb with ⟨e_, H⟩ | ⟨e_, H⟩ <;> subst e_)
    | ((with_reducible apply ROps.pure); (case hop => rfl); (case hw => rfl); (case hdst => rfl); (case hd => rfl))
    | (with_reducible apply ROps.nil)
    | (with_reducible apply Runs.seq)
    | (with_reducible apply Runs.region tysOK)
    | (with_reducible apply Runs.block)
    | (with_reducible apply Runs.skip)
    | (with_reducible apply Runs.inBlock)
    | (with_reducible apply Runs.scope)
    | (with_reducible apply Runs.inScope)
    | (with_reducible apply Runs.label)
    | ((with_reducible apply Runs.condT); (case ho => rfl))
    | ((with_reducible apply Runs.condF); (case ho => rfl))
    | ((with_reducible apply Runs.exit); (case he => rfl))
    | ((with_reducible apply ROps.store); (case hop => rfl); (case hp => rfl); (case hR => rfl); (case hc => rfl); (case hl => first | (dsimp only [setR_one, setR, Nat.beq, cond]; done) | (dsimp only [setR_one, setR, Nat.beq, cond]; rfl) | rfl); (case hl' => first | (dsimp only [List.take, List.drop, List.append, List.nil_append, List.cons_append, List.map, List.length, Nat.add]; rfl) | rfl); (case hw => rfl); (all_goals try rfl))
    | ((with_reducible apply ROps.cmp); (case hop => exact cmpX); (case hw => rfl); (case hdst => rfl); (case hd => rfl); (all_goals (intro h; first | (replace H := ite_pos_ h H) | (replace H := ite_neg_ h H) | (replace H := dec_pos h H) | (replace H := dec_neg h H) | (replace H := dec_t h H) | (replace H := dec_f h H) | (replace H := beq_pos h H) | (replace H := beq_neg h H) | (replace H := beq_tt h H) | (replace H := beq_ff h H) | (replace H := ite_pos_ (Decidable.not_not.1 h) H) | (replace H := beq_pos (Decidable.not_not.1 h) H) | (replace H := beq_tt (Decidable.not_not.1 h) H) | ((try simp only [rd_T59, rd_T62, rd_T66, rdOf] at h); (try simp only [rd_T59, rd_T62, rd_T66, rdOf] at H); (rw [decide_eq_true h] at H)) | ((try simp only [rd_T59, rd_T62, rd_T66, rdOf] at h); (try simp only [rd_T59, rd_T62, rd_T66, rdOf] at H); (rw [decide_eq_false h] at H)) | ((try simp only [rd_T59, rd_T62, rd_T66, rdOf] at h); (try simp only [rd_T59, rd_T62, rd_T66, rdOf] at H); (rw [beq_t h] at H)) | ((try simp only [rd_T59, rd_T62, rd_T66, rdOf] at h); (try simp only [rd_T59, rd_T62, rd_T66, rdOf] at H); (rw [beq_f h] at H)) | ((try simp only [rd_T59, rd_T62, rd_T66, rdOf] at h); (try simp only [rd_T59, rd_T62, rd_T66, rdOf] at H); (rw [bne_t h] at H)) | ((try simp only [rd_T59, rd_T62, rd_T66, rdOf] at h); (try simp only [rd_T59, rd_T62, rd_T66, rdOf] at H); (rw [bne_f h] at H)) | ((try simp only [rd_T59, rd_T62, rd_T66, rdOf] at h); (try simp only [rd_T59, rd_T62, rd_T66, rdOf] at H); (rw [beq_t (Decidable.not_not.1 h)] at H)) | ((try simp only [rd_T59, rd_T62, rd_T66, rdOf] at h); (try simp only [rd_T59, rd_T62, rd_T66, rdOf] at H); (rw [bne_f (Decidable.not_not.1 h)] at H)) | ((try simp only [rd_T59, rd_T62, rd_T66, rdOf] at h); (try simp only [rd_T59, rd_T62, rd_T66, rdOf] at H); (rw [if_pos h] at H)) | ((try simp only [rd_T59, rd_T62, rd_T66, rdOf] at h); (try simp only [rd_T59, rd_T62, rd_T66, rdOf] at H); (rw [if_neg h] at H)) | contradiction | skip)))
    | ((with_reducible apply ROps.val); (case hop => exact valX); (case hw => rfl); (case hdst => rfl); (case hd => rfl))
    | ((first | ((with_reducible apply ROps.eqS); case hop => rfl) | ((with_reducible apply ROps.neS); case hop => rfl)); (case ht => rfl); (case hx => rfl); (case hy => rfl); (case hl => rfl); (case hr => rfl); (case hw => rfl); (case hdst => rfl); (case hd => rfl); (all_goals (intro h; first | (replace H := ite_posF H h) | (replace H := ite_negF H h) | (dsimp only [eqP, eqA] at h) | skip)))
    | ((with_reducible apply ROps.idx); (case hop => rfl); (case hx => rfl); (case hi => rfl); (case he => rfl); (case hw => rfl); (case hdst => rfl); (case hd => rfl); (case h0 => first | assumption | omega); (case h1 => first | assumption | omega))
    | ((with_reducible apply ROps.alloc); (case hop => rfl); (case hw => rfl); (all_goals try rfl))
    | ((with_reducible apply ROps.box); (case hop => rfl); (case hx => rfl); (case hrf => rfl); (case hw => rfl); (all_goals try rfl))
    | ((with_reducible apply ROps.off); (case hw => rfl); (case hdst => rfl); (case hd => rfl))
    | ((with_reducible have hB : (conf_has.f _ _ _).bind _ = some _ := H); clear hB; (replace H := bind_some' H); (obtain ⟨t_, H1, H⟩ := H); (try dsimp only at H); (with_reducible apply ROps.call); (case hop => rfl); (case hc => exact conf_has.ok H1); (case ha => exact argsX); (case hw => rfl); (case hdst => rfl); (case hd => rfl))
    | ((with_reducible have hB : (addr_Has.f _ _ _).bind _ = some _ := H); clear hB; (replace H := bind_some' H); (obtain ⟨t_, H1, H⟩ := H); (try dsimp only at H); (with_reducible apply ROps.call); (case hop => rfl); (case hc => exact addr_Has.ok H1); (case ha => exact argsX); (case hw => rfl); (case hdst => rfl); (case hd => rfl))
    | ((with_reducible have hB : (conf_spots.f _ _ _ _).bind _ = some _ := H); clear hB; (replace H := bind_some' H); (obtain ⟨t_, H1, H⟩ := H); (try dsimp only at H); (with_reducible apply ROps.call); (case hop => rfl); (case hc => exact conf_spots.ok H1); (case ha => exact argsX); (case hw => rfl); (case hdst => rfl); (case hd => rfl))
    | ((with_reducible have hB : (conf_inside.f _ _ _ _ _ _ _ _).bind _ = some _ := H); clear hB; (replace H := bind_some' H); (obtain ⟨t_, H1, H⟩ := H); (try dsimp only at H); (with_reducible apply ROps.call); (case hop => rfl); (case hc => exact conf_inside.ok H1); (case ha => exact argsX); (case hw => rfl); (case hdst => rfl); (case hd => rfl))
    | ((with_reducible apply Runs.loopK1 ((fun i0 i1 i2 i3 i4 => fun kk (v0_12 : Int) => conf_placed.l0 kk i0 i1 v0_12 i2 i3 i4) _ _ _ _ _) [1, 10, 11] [] (fun b v0_12 => [(12, .imm (.int .i64 v0_12))]) (fun v0_12 => []) _ _ [] H); (case h0 => intros; rfl); (any_goals (clear H; intro k0 hk0 ih0 v0_12 H; replace H : conf_placed.l0 (k0 + 1) _ _ v0_12 _ _ _ = some _ := H; rw [conf_placed.l0] at H)))
    | (with_reducible apply ih0 _ _ [] _ _ (by omega) H)
    | ((with_reducible apply Runs.loopK1 ((fun i0 i1 i2 i3 i4 i5 i6 i7 i8 i9 i10 i11 i12 i13 i14 i15 i16 => fun kk (v1_20 : Int) => conf_placed.l1 kk i0 i1 i2 i3 i4 v1_20 i5 i6 i7 i8 i9 i10 i11 i12 i13 i14 i15 i16) _ _ _ _ _ _ _ _ _ _ _ _ _ _ _ _ _) [1, 4, 10, 11, 12, 18, 19] [] (fun b v1_20 => [(20, .imm (.int .i64 v1_20))]) (fun v1_20 => []) _ _ [] H); (case h0 => intros; rfl); (any_goals (clear H; intro k1 hk1 ih1 v1_20 H; replace H : conf_placed.l1 (k1 + 1) _ _ _ _ _ v1_20 _ _ _ _ _ _ _ _ _ _ _ _ = some _ := H; rw [conf_placed.l1] at H)))
    | (with_reducible apply ih1 _ _ [] _ _ (by omega) H)
    | ((with_reducible apply Runs.loopK1 ((fun i0 i1 i2 i3 i4 i5 i6 i7 i8 i9 i10 i11 i12 i13 i14 i15 i16 => fun kk (v2_49 : Int) => conf_placed.l2 kk i0 i1 i2 i3 i4 v2_49 i5 i6 i7 i8 i9 i10 i11 i12 i13 i14 i15 i16) _ _ _ _ _ _ _ _ _ _ _ _ _ _ _ _ _) [1, 4, 10, 11, 12, 47, 48] [] (fun b v2_49 => [(49, .imm (.int .i64 v2_49))]) (fun v2_49 => []) _ _ [] H); (case h0 => intros; rfl); (any_goals (clear H; intro k2 hk2 ih2 v2_49 H; replace H : conf_placed.l2 (k2 + 1) _ _ _ _ _ v2_49 _ _ _ _ _ _ _ _ _ _ _ _ = some _ := H; rw [conf_placed.l2] at H)))
    | (with_reducible apply ih2 _ _ [] _ _ (by omega) H)
    | ((with_reducible apply Runs.retP tysOK); (case hrs => rfl); (case h => rfl); (case hr => (cases H; exact refX)); (case hx => rfl))
    | exact leRX)
end Go.Proofs.Ytdcabfonjmeajaa.POrder
set_option linter.unusedVariables false
set_option linter.unusedSimpArgs false
namespace Go.Proofs.Ytdcabfonjmeajaa.POrder
open Go.RowKit Go.Proofs.YtdcabfonjmeajaaW.PrintWords Go.Proofs.YtdcabfonjmeajaaW.PrintLast Go.Proofs.YtdcabfonjmeajaaW.PrintMore Go.Proofs.Ytdcabfonjmeajaa.Abs
/-! ### addr_Meet: function 86 -/
def addr_Meet.f (a0 : Int) (a1 : Int) (a2 : Int) (a3 : Int) : Option (Bool) := (addr_Fair.f a0 a1).bind fun t165 => (if t165 = true then ((addr_Fair.f a2 a3).bind fun t166 => (if t166 = true then ((addr_Has.f a0 a1 a2).bind fun t167 => (if t167 = true then (some true) else ((addr_Has.f a2 a3 a0).bind fun t168 => (some t168)))) else (some false))) else (some false))
noncomputable def addr_Meet.cx : Cx := ⟨Try.prog, tys, glo, 29, Try.f86, [.tmp 8], 0⟩
set_option maxHeartbeats 16000000 in
set_option maxRecDepth 100000 in
theorem addr_Meet.ok {a0 : Int} {a1 : Int} {a2 : Int} {a3 : Int} {r0 : Bool} (H : addr_Meet.f a0 a1 a2 a3 = some r0) : CallOK Try.prog glo 86 [.imm (.int .i64 a0), .imm (.int .i64 a1), .imm (.int .i64 a2), .imm (.int .i64 a3)] (.imm (.bool r0)) := by
  unfold addr_Meet.f at H
  refine CallOK.of (c := addr_Meet.cx) Try.func86 (show (addr_Meet.cx).fn.body = some _ from rfl) rfl rfl (Nat.le_of_ble_eq_true rfl) rfl ?_
  repeat' (first
    | ((with_reducible replace H := some_ite H); obtain ⟨_, H⟩ := H)
    | (with_reducible replace H := some_bind_ H)
    | (with_reducible replace H := true_ite H)
    | (with_reducible replace H := false_ite H)
    | ((with_reducible have hb := bool_ite H); clear H; rcases hb with ⟨e_, H⟩ | ⟨e_, H⟩ <;> subst e_)
    | ((with_reducible apply ROps.pure); (case hop => rfl); (case hw => rfl); (case hdst => rfl); (case hd => rfl))
    | (with_reducible apply ROps.nil)
    | (with_reducible apply Runs.seq)
    | (with_reducible apply Runs.region tysOK)
    | (with_reducible apply Runs.scope)
    | (with_reducible apply Runs.inScope)
    | (with_reducible apply Runs.label)
    | ((with_reducible apply ROps.off); (case hw => rfl); (case hdst => rfl); (case hd => rfl))
    | ((with_reducible have hB : (addr_Has.f _ _ _).bind _ = some _ := H); clear hB; (replace H := bind_some' H); (obtain ⟨t_, H1, H⟩ := H); (try dsimp only at H); (with_reducible apply ROps.call); (case hop => rfl); (case hc => exact addr_Has.ok H1); (case ha => exact argsX); (case hw => rfl); (case hdst => rfl); (case hd => rfl))
    | ((with_reducible have hB : (addr_Fair.f _ _).bind _ = some _ := H); clear hB; (replace H := bind_some' H); (obtain ⟨t_, H1, H⟩ := H); (try dsimp only at H); (with_reducible apply ROps.call); (case hop => rfl); (case hc => exact addr_Fair.ok H1); (case ha => exact argsX); (case hw => rfl); (case hdst => rfl); (case hd => rfl))
    | ((with_reducible apply Runs.retP tysOK); (case hrs => rfl); (case h => rfl); (case hr => (cases H; exact refX)); (case hx => rfl))
    | exact leRX)
end Go.Proofs.Ytdcabfonjmeajaa.POrder
set_option linter.unusedVariables false
set_option linter.unusedSimpArgs false
namespace Go.Proofs.Ytdcabfonjmeajaa.POrder
open Go.RowKit Go.Proofs.YtdcabfonjmeajaaW.PrintWords Go.Proofs.YtdcabfonjmeajaaW.PrintLast Go.Proofs.YtdcabfonjmeajaaW.PrintMore Go.Proofs.Ytdcabfonjmeajaa.Abs
/-! ### conf_once: function 69 -/
mutual
def conf_once.j0 : Nat → Bool → Bool → Int → Int → Int → Int → List (S62) → List (S59) → Int → Int → Int → Int → Int → Int → Int → List (S62) → List (S59) → Int → Int → Int → Option (Bool)
  | 0, _, _, _, _, _, _, _, _, _, _, _, _, _, _, _, _, _, _, _, _ => none
  | k + 1, x2, x53, x170000, x170001, x170002, x170003, x170004, x170005, x170006, x170007, x170008, x171000, x171001, x171002, x171003, x171004, x171005, x171006, x171007, x171008 => if x53 = true then (some false) else (conf_once.l0 k x2 x170004 (x170004.length : Int) 0 x170000 x170001 x170002 x170003 x170004 x170005 x170006 x170007 x170008 x171000 x171001 x171002 x171003 x171004 x171005 x171006 x171007 x171008)
def conf_once.l0 : Nat → Bool → List (S62) → Int → Int → Int → Int → Int → Int → List (S62) → List (S59) → Int → Int → Int → Int → Int → Int → Int → List (S62) → List (S59) → Int → Int → Int → Option (Bool)
  | 0, _, _, _, _, _, _, _, _, _, _, _, _, _, _, _, _, _, _, _, _, _, _ => none
  | k + 1, x2, x56, x57, x58, x170000, x170001, x170002, x170003, x170004, x170005, x170006, x170007, x170008, x171000, x171001, x171002, x171003, x171004, x171005, x171006, x171007, x171008 => if x58 < x57 then (if 0 ≤ x58 then (if x58 < (x56.length : Int) then (conf_once.l1 k x2 x58 x56 x57 x58 x171004 (x171004.length : Int) 0 x170000 x170001 x170002 x170003 x170004 x170005 x170006 x170007 x170008 x171000 x171001 x171002 x171003 x171004 x171005 x171006 x171007 x171008 ((rd_T62 x56 x58).f0) ((rd_T62 x56 x58).f1)) else (none)) else (none)) else (conf_once.l2 k x2 x170005 (x170005.length : Int) 0 x170000 x170001 x170002 x170003 x170004 x170005 x170006 x170007 x170008 x171000 x171001 x171002 x171003 x171004 x171005 x171006 x171007 x171008)
def conf_once.l1 : Nat → Bool → Int → List (S62) → Int → Int → List (S62) → Int → Int → Int → Int → Int → Int → List (S62) → List (S59) → Int → Int → Int → Int → Int → Int → Int → List (S62) → List (S59) → Int → Int → Int → Int → Int → Option (Bool)
  | 0, _, _, _, _, _, _, _, _, _, _, _, _, _, _, _, _, _, _, _, _, _, _, _, _, _, _, _, _ => none
  | k + 1, x2, x7, x56, x57, x58, x65, x66, x67, x170000, x170001, x170002, x170003, x170004, x170005, x170006, x170007, x170008, x171000, x171001, x171002, x171003, x171004, x171005, x171006, x171007, x171008, x174000, x174001 => if x67 < x66 then (if 0 ≤ x67 then (if x67 < (x65.length : Int) then (if x2 = true then (if x7 = x67 then (conf_once.l1 k x2 x7 x56 x57 x58 x65 x66 (wrap64 (x67 + 1)) x170000 x170001 x170002 x170003 x170004 x170005 x170006 x170007 x170008 x171000 x171001 x171002 x171003 x171004 x171005 x171006 x171007 x171008 x174000 x174001) else ((conf_has.f x174000 x174001 ((rd_T62 x65 x67).f0)).bind fun t176 => (if t176 = true then (some false) else ((conf_has.f ((rd_T62 x65 x67).f0) ((rd_T62 x65 x67).f1) x174000).bind fun t177 => (if t177 = true then (some false) else (conf_once.l1 k x2 x7 x56 x57 x58 x65 x66 (wrap64 (x67 + 1)) x170000 x170001 x170002 x170003 x170004 x170005 x170006 x170007 x170008 x171000 x171001 x171002 x171003 x171004 x171005 x171006 x171007 x171008 x174000 x174001)))))) else (conf_once.l1 k x2 x7 x56 x57 x58 x65 x66 (wrap64 (x67 + 1)) x170000 x170001 x170002 x170003 x170004 x170005 x170006 x170007 x170008 x171000 x171001 x171002 x171003 x171004 x171005 x171006 x171007 x171008 x174000 x174001)) else (none)) else (none)) else (conf_once.l0 k x2 x56 x57 (wrap64 (x58 + 1)) x170000 x170001 x170002 x170003 x170004 x170005 x170006 x170007 x170008 x171000 x171001 x171002 x171003 x171004 x171005 x171006 x171007 x171008)
def conf_once.l2 : Nat → Bool → List (S59) → Int → Int → Int → Int → Int → Int → List (S62) → List (S59) → Int → Int → Int → Int → Int → Int → Int → List (S62) → List (S59) → Int → Int → Int → Option (Bool)
  | 0, _, _, _, _, _, _, _, _, _, _, _, _, _, _, _, _, _, _, _, _, _, _ => none
  | k + 1, x2, x94, x95, x96, x170000, x170001, x170002, x170003, x170004, x170005, x170006, x170007, x170008, x171000, x171001, x171002, x171003, x171004, x171005, x171006, x171007, x171008 => if x96 < x95 then (if 0 ≤ x96 then (if x96 < (x94.length : Int) then (conf_once.l3 k x2 x96 x94 x95 x96 x171005 (x171005.length : Int) 0 x170000 x170001 x170002 x170003 x170004 x170005 x170006 x170007 x170008 x171000 x171001 x171002 x171003 x171004 x171005 x171006 x171007 x171008 ((rd_T59 x94 x96).f0) ((rd_T59 x94 x96).f1)) else (none)) else (none)) else (some true)
def conf_once.l3 : Nat → Bool → Int → List (S59) → Int → Int → List (S59) → Int → Int → Int → Int → Int → Int → List (S62) → List (S59) → Int → Int → Int → Int → Int → Int → Int → List (S62) → List (S59) → Int → Int → Int → ByteArray → Int → Option (Bool)
  | 0, _, _, _, _, _, _, _, _, _, _, _, _, _, _, _, _, _, _, _, _, _, _, _, _, _, _, _, _ => none
  | k + 1, x2, x11, x94, x95, x96, x103, x104, x105, x170000, x170001, x170002, x170003, x170004, x170005, x170006, x170007, x170008, x171000, x171001, x171002, x171003, x171004, x171005, x171006, x171007, x171008, x180000, x180001 => if x105 < x104 then (if 0 ≤ x105 then (if x105 < (x103.length : Int) then (if x2 = true then (if x11 = x105 then (conf_once.l3 k x2 x11 x94 x95 x96 x103 x104 (wrap64 (x105 + 1)) x170000 x170001 x170002 x170003 x170004 x170005 x170006 x170007 x170008 x171000 x171001 x171002 x171003 x171004 x171005 x171006 x171007 x171008 x180000 x180001) else (if x180001 = ((rd_T59 x103 x105).f1) then (some false) else (if x170000 = x171000 then (if x180000.toList = ((rd_T59 x103 x105).f0).toList then (some false) else (conf_once.l3 k x2 x11 x94 x95 x96 x103 x104 (wrap64 (x105 + 1)) x170000 x170001 x170002 x170003 x170004 x170005 x170006 x170007 x170008 x171000 x171001 x171002 x171003 x171004 x171005 x171006 x171007 x171008 x180000 x180001)) else (conf_once.l3 k x2 x11 x94 x95 x96 x103 x104 (wrap64 (x105 + 1)) x170000 x170001 x170002 x170003 x170004 x170005 x170006 x170007 x170008 x171000 x171001 x171002 x171003 x171004 x171005 x171006 x171007 x171008 x180000 x180001)))) else (if x180001 = ((rd_T59 x103 x105).f1) then (some false) else (if x170000 = x171000 then (if x180000.toList = ((rd_T59 x103 x105).f0).toList then (some false) else (conf_once.l3 k x2 x11 x94 x95 x96 x103 x104 (wrap64 (x105 + 1)) x170000 x170001 x170002 x170003 x170004 x170005 x170006 x170007 x170008 x171000 x171001 x171002 x171003 x171004 x171005 x171006 x171007 x171008 x180000 x180001)) else (conf_once.l3 k x2 x11 x94 x95 x96 x103 x104 (wrap64 (x105 + 1)) x170000 x170001 x170002 x170003 x170004 x170005 x170006 x170007 x170008 x171000 x171001 x171002 x171003 x171004 x171005 x171006 x171007 x171008 x180000 x180001)))) else (none)) else (none)) else (conf_once.l2 k x2 x94 x95 (wrap64 (x96 + 1)) x170000 x170001 x170002 x170003 x170004 x170005 x170006 x170007 x170008 x171000 x171001 x171002 x171003 x171004 x171005 x171006 x171007 x171008)
end
def conf_once.f (k : Nat) (a0_0 : Int) (a0_1 : Int) (a0_2 : Int) (a0_3 : Int) (l0_4 : List (S62)) (l0_5 : List (S59)) (a0_6 : Int) (a0_7 : Int) (a0_8 : Int) (a1_0 : Int) (a1_1 : Int) (a1_2 : Int) (a1_3 : Int) (l1_4 : List (S62)) (l1_5 : List (S59)) (a1_6 : Int) (a1_7 : Int) (a1_8 : Int) (a2 : Bool) : Option (Bool) := if a2 = true then (conf_once.j0 k a2 false a0_0 a0_1 a0_2 a0_3 l0_4 l0_5 a0_6 a0_7 a0_8 a1_0 a1_1 a1_2 a1_3 l1_4 l1_5 a1_6 a1_7 a1_8) else ((addr_Meet.f a0_2 a0_3 a1_2 a1_3).bind fun t171 => (if t171 = true then (conf_once.j0 k a2 true a0_0 a0_1 a0_2 a0_3 l0_4 l0_5 a0_6 a0_7 a0_8 a1_0 a1_1 a1_2 a1_3 l1_4 l1_5 a1_6 a1_7 a1_8) else (if a0_0 = a1_0 then (conf_once.j0 k a2 false a0_0 a0_1 a0_2 a0_3 l0_4 l0_5 a0_6 a0_7 a0_8 a1_0 a1_1 a1_2 a1_3 l1_4 l1_5 a1_6 a1_7 a1_8) else (if a0_6 = a1_6 then (conf_once.j0 k a2 (decide (a0_6 > 0)) a0_0 a0_1 a0_2 a0_3 l0_4 l0_5 a0_6 a0_7 a0_8 a1_0 a1_1 a1_2 a1_3 l1_4 l1_5 a1_6 a1_7 a1_8) else (conf_once.j0 k a2 false a0_0 a0_1 a0_2 a0_3 l0_4 l0_5 a0_6 a0_7 a0_8 a1_0 a1_1 a1_2 a1_3 l1_4 l1_5 a1_6 a1_7 a1_8)))))
noncomputable def conf_once.cx : Cx := ⟨Try.prog, tys, glo, 140, Try.f69, [.tmp 6], 0⟩
set_option maxHeartbeats 16000000 in
set_option maxRecDepth 100000 in
theorem conf_once.ok {k : Nat} {a0_0 : Int} {a0_1 : Int} {a0_2 : Int} {a0_3 : Int} {l0_4 : List (S62)} {l0_5 : List (S59)} {a0_6 : Int} {a0_7 : Int} {a0_8 : Int} {a1_0 : Int} {a1_1 : Int} {a1_2 : Int} {a1_3 : Int} {l1_4 : List (S62)} {l1_5 : List (S59)} {a1_6 : Int} {a1_7 : Int} {a1_8 : Int} {a2 : Bool} {r0 : Bool} (H : conf_once.f k a0_0 a0_1 a0_2 a0_3 l0_4 l0_5 a0_6 a0_7 a0_8 a1_0 a1_1 a1_2 a1_3 l1_4 l1_5 a1_6 a1_7 a1_8 a2 = some r0) : CallOK Try.prog glo 69 [.agg [.imm (.int .i64 a0_0), .imm (.int .i64 a0_1), .imm (.int .i64 a0_2), .imm (.int .i64 a0_3), vS62 l0_4, vS59 l0_5, .imm (.int .i64 a0_6), .imm (.int .i64 a0_7), .imm (.int .i64 a0_8)], .agg [.imm (.int .i64 a1_0), .imm (.int .i64 a1_1), .imm (.int .i64 a1_2), .imm (.int .i64 a1_3), vS62 l1_4, vS59 l1_5, .imm (.int .i64 a1_6), .imm (.int .i64 a1_7), .imm (.int .i64 a1_8)], .imm (.bool a2)] (.imm (.bool r0)) := by
  unfold conf_once.f at H
  refine CallOK.of (c := conf_once.cx) Try.func69 (show (conf_once.cx).fn.body = some _ from rfl) rfl rfl (Nat.le_of_ble_eq_true rfl) rfl ?_
  repeat' (first
    | ((with_reducible have hJ : conf_once.j0 k _ _ _ _ _ _ _ _ _ _ _ _ _ _ _ _ _ _ _ _ = some _ := H); clear hJ; (rcases k with _ | k); (rw [conf_once.j0] at H; cases H); (rw [conf_once.j0] at H))
    | ((with_reducible have hJ : conf_once.j0 k0 _ _ _ _ _ _ _ _ _ _ _ _ _ _ _ _ _ _ _ _ = some _ := H); clear hJ; (rcases k0 with _ | k0); (rw [conf_once.j0] at H; cases H); (rw [conf_once.j0] at H))
    | ((with_reducible have hJ : conf_once.j0 k1 _ _ _ _ _ _ _ _ _ _ _ _ _ _ _ _ _ _ _ _ = some _ := H); clear hJ; (rcases k1 with _ | k1); (rw [conf_once.j0] at H; cases H); (rw [conf_once.j0] at H))
    | ((with_reducible have hJ : conf_once.j0 k2 _ _ _ _ _ _ _ _ _ _ _ _ _ _ _ _ _ _ _ _ = some _ := H); clear hJ; (rcases k2 with _ | k2); (rw [conf_once.j0] at H; cases H); (rw [conf_once.j0] at H))
    | ((with_reducible have hJ : conf_once.j0 k3 _ _ _ _ _ _ _ _ _ _ _ _ _ _ _ _ _ _ _ _ = some _ := H); clear hJ; (rcases k3 with _ | k3); (rw [conf_once.j0] at H; cases H); (rw [conf_once.j0] at H))
    | ((with_reducible replace H := some_ite H); obtain ⟨_, H⟩ := H)
    | (with_reducible replace H := some_bind_ H)
    | (with_reducible replace H := true_ite H)
    | (with_reducible replace H := false_ite H)
    | ((with_reducible have hb := bool_ite H); clear H; rcases hb with ⟨e_, H⟩ | ⟨e_, H⟩ <;> subst e_)
    | ((with_reducible apply ROps.pure); (case hop => rfl); (case hw => rfl); (case hdst => rfl); (case hd => rfl))
    | (with_reducible apply ROps.nil)
    | (with_reducible apply Runs.seq)
    | (with_reducible apply Runs.region tysOK)
    | (with_reducible apply Runs.block)
    | (with_reducible apply Runs.skip)
    | (with_reducible apply Runs.inBlock)
    | (with_reducible apply Runs.scope)
    | (with_reducible apply Runs.inScope)
    | (with_reducible apply Runs.label)
    | ((with_reducible apply Runs.condT); (case ho => rfl))
    | ((with_reducible apply Runs.condF); (case ho => rfl))
    | ((with_reducible apply Runs.exit); (case he => rfl))
    | ((with_reducible apply ROps.store); (case hop => rfl); (case hp => rfl); (case hR => rfl); (case hc => rfl); (case hl => first | (dsimp only [setR_one, setR, Nat.beq, cond]; done) | (dsimp only [setR_one, setR, Nat.beq, cond]; rfl) | rfl); (case hl' => first | (dsimp only [List.take, List.drop, List.append, List.nil_append, List.cons_append, List.map, List.length, Nat.add]; rfl) | rfl); (case hw => rfl); (all_goals try rfl))
    | ((with_reducible apply ROps.cmp); (case hop => exact cmpX); (case hw => rfl); (case hdst => rfl); (case hd => rfl); (all_goals (intro h; first | (replace H := ite_pos_ h H) | (replace H := ite_neg_ h H) | (replace H := dec_pos h H) | (replace H := dec_neg h H) | (replace H := dec_t h H) | (replace H := dec_f h H) | (replace H := beq_pos h H) | (replace H := beq_neg h H) | (replace H := beq_tt h H) | (replace H := beq_ff h H) | (replace H := ite_pos_ (Decidable.not_not.1 h) H) | (replace H := beq_pos (Decidable.not_not.1 h) H) | (replace H := beq_tt (Decidable.not_not.1 h) H) | ((try simp only [rd_T59, rd_T62, rdOf] at h); (try simp only [rd_T59, rd_T62, rdOf] at H); (rw [decide_eq_true h] at H)) | ((try simp only [rd_T59, rd_T62, rdOf] at h); (try simp only [rd_T59, rd_T62, rdOf] at H); (rw [decide_eq_false h] at H)) | ((try simp only [rd_T59, rd_T62, rdOf] at h); (try simp only [rd_T59, rd_T62, rdOf] at H); (rw [beq_t h] at H)) | ((try simp only [rd_T59, rd_T62, rdOf] at h); (try simp only [rd_T59, rd_T62, rdOf] at H); (rw [beq_f h] at H)) | ((try simp only [rd_T59, rd_T62, rdOf] at h); (try simp only [rd_T59, rd_T62, rdOf] at H); (rw [bne_t h] at H)) | ((try simp only [rd_T59, rd_T62, rdOf] at h); (try simp only [rd_T59, rd_T62, rdOf] at H); (rw [bne_f h] at H)) | ((try simp only [rd_T59, rd_T62, rdOf] at h); (try simp only [rd_T59, rd_T62, rdOf] at H); (rw [beq_t (Decidable.not_not.1 h)] at H)) | ((try simp only [rd_T59, rd_T62, rdOf] at h); (try simp only [rd_T59, rd_T62, rdOf] at H); (rw [bne_f (Decidable.not_not.1 h)] at H)) | ((try simp only [rd_T59, rd_T62, rdOf] at h); (try simp only [rd_T59, rd_T62, rdOf] at H); (rw [if_pos h] at H)) | ((try simp only [rd_T59, rd_T62, rdOf] at h); (try simp only [rd_T59, rd_T62, rdOf] at H); (rw [if_neg h] at H)) | contradiction | skip)))
    | ((with_reducible apply ROps.val); (case hop => exact valX); (case hw => rfl); (case hdst => rfl); (case hd => rfl))
    | ((first | ((with_reducible apply ROps.eqS); case hop => rfl) | ((with_reducible apply ROps.neS); case hop => rfl)); (case ht => rfl); (case hx => rfl); (case hy => rfl); (case hl => rfl); (case hr => rfl); (case hw => rfl); (case hdst => rfl); (case hd => rfl); (all_goals (intro h; first | (replace H := ite_posF H h) | (replace H := ite_negF H h) | (dsimp only [eqP, eqA] at h) | skip)))
    | ((with_reducible apply ROps.idx); (case hop => rfl); (case hx => rfl); (case hi => rfl); (case he => rfl); (case hw => rfl); (case hdst => rfl); (case hd => rfl); (case h0 => first | assumption | omega); (case h1 => first | assumption | omega))
    | ((with_reducible apply ROps.alloc); (case hop => rfl); (case hw => rfl); (all_goals try rfl))
    | ((with_reducible apply ROps.box); (case hop => rfl); (case hx => rfl); (case hrf => rfl); (case hw => rfl); (all_goals try rfl))
    | ((with_reducible apply ROps.off); (case hw => rfl); (case hdst => rfl); (case hd => rfl))
    | ((with_reducible have hB : (conf_has.f _ _ _).bind _ = some _ := H); clear hB; (replace H := bind_some' H); (obtain ⟨t_, H1, H⟩ := H); (try dsimp only at H); (with_reducible apply ROps.call); (case hop => rfl); (case hc => exact conf_has.ok H1); (case ha => exact argsX); (case hw => rfl); (case hdst => rfl); (case hd => rfl))
    | ((with_reducible have hB : (addr_Meet.f _ _ _ _).bind _ = some _ := H); clear hB; (replace H := bind_some' H); (obtain ⟨t_, H1, H⟩ := H); (try dsimp only at H); (with_reducible apply ROps.call); (case hop => rfl); (case hc => exact addr_Meet.ok H1); (case ha => exact argsX); (case hw => rfl); (case hdst => rfl); (case hd => rfl))
    | ((with_reducible apply Runs.loopK1 ((fun i0 i1 i2 i3 i4 i5 i6 i7 i8 i9 i10 i11 i12 i13 i14 i15 i16 i17 i18 i19 i20 => fun kk (v0_58 : Int) => conf_once.l0 kk i0 i1 i2 v0_58 i3 i4 i5 i6 i7 i8 i9 i10 i11 i12 i13 i14 i15 i16 i17 i18 i19 i20) _ _ _ _ _ _ _ _ _ _ _ _ _ _ _ _ _ _ _ _ _) [2, 3, 4, 56, 57] [] (fun b v0_58 => [(58, .imm (.int .i64 v0_58))]) (fun v0_58 => []) _ _ [] H); (case h0 => intros; rfl); (any_goals (clear H; intro k0 hk0 ih0 v0_58 H; replace H : conf_once.l0 (k0 + 1) _ _ _ v0_58 _ _ _ _ _ _ _ _ _ _ _ _ _ _ _ _ _ _ = some _ := H; rw [conf_once.l0] at H)))
    | (with_reducible apply ih0 _ _ [] _ _ (by omega) H)
    | ((with_reducible apply Runs.loopK1 ((fun i0 i1 i2 i3 i4 i5 i6 i7 i8 i9 i10 i11 i12 i13 i14 i15 i16 i17 i18 i19 i20 i21 i22 i23 i24 i25 i26 => fun kk (v1_67 : Int) => conf_once.l1 kk i0 i1 i2 i3 i4 i5 i6 v1_67 i7 i8 i9 i10 i11 i12 i13 i14 i15 i16 i17 i18 i19 i20 i21 i22 i23 i24 i25 i26) _ _ _ _ _ _ _ _ _ _ _ _ _ _ _ _ _ _ _ _ _ _ _ _ _ _ _) [2, 3, 4, 7, 8, 56, 57, 58, 65, 66] [] (fun b v1_67 => [(67, .imm (.int .i64 v1_67))]) (fun v1_67 => []) _ _ [] H); (case h0 => intros; rfl); (any_goals (clear H; intro k1 hk1 ih1 v1_67 H; replace H : conf_once.l1 (k1 + 1) _ _ _ _ _ _ _ v1_67 _ _ _ _ _ _ _ _ _ _ _ _ _ _ _ _ _ _ _ _ = some _ := H; rw [conf_once.l1] at H)))
    | (with_reducible apply ih1 _ _ [] _ _ (by omega) H)
    | ((with_reducible apply Runs.loopK1 ((fun i0 i1 i2 i3 i4 i5 i6 i7 i8 i9 i10 i11 i12 i13 i14 i15 i16 i17 i18 i19 i20 => fun kk (v2_96 : Int) => conf_once.l2 kk i0 i1 i2 v2_96 i3 i4 i5 i6 i7 i8 i9 i10 i11 i12 i13 i14 i15 i16 i17 i18 i19 i20) _ _ _ _ _ _ _ _ _ _ _ _ _ _ _ _ _ _ _ _ _) [2, 3, 4, 94, 95] [] (fun b v2_96 => [(96, .imm (.int .i64 v2_96))]) (fun v2_96 => []) _ _ [] H); (case h0 => intros; rfl); (any_goals (clear H; intro k2 hk2 ih2 v2_96 H; replace H : conf_once.l2 (k2 + 1) _ _ _ v2_96 _ _ _ _ _ _ _ _ _ _ _ _ _ _ _ _ _ _ = some _ := H; rw [conf_once.l2] at H)))
    | (with_reducible apply ih2 _ _ [] _ _ (by omega) H)
    | ((with_reducible apply Runs.loopK1 ((fun i0 i1 i2 i3 i4 i5 i6 i7 i8 i9 i10 i11 i12 i13 i14 i15 i16 i17 i18 i19 i20 i21 i22 i23 i24 i25 i26 => fun kk (v3_105 : Int) => conf_once.l3 kk i0 i1 i2 i3 i4 i5 i6 v3_105 i7 i8 i9 i10 i11 i12 i13 i14 i15 i16 i17 i18 i19 i20 i21 i22 i23 i24 i25 i26) _ _ _ _ _ _ _ _ _ _ _ _ _ _ _ _ _ _ _ _ _ _ _ _ _ _ _) [2, 3, 4, 11, 12, 94, 95, 96, 103, 104] [] (fun b v3_105 => [(105, .imm (.int .i64 v3_105))]) (fun v3_105 => []) _ _ [] H); (case h0 => intros; rfl); (any_goals (clear H; intro k3 hk3 ih3 v3_105 H; replace H : conf_once.l3 (k3 + 1) _ _ _ _ _ _ _ v3_105 _ _ _ _ _ _ _ _ _ _ _ _ _ _ _ _ _ _ _ _ = some _ := H; rw [conf_once.l3] at H)))
    | (with_reducible apply ih3 _ _ [] _ _ (by omega) H)
    | ((with_reducible apply Runs.retP tysOK); (case hrs => rfl); (case h => rfl); (case hr => (cases H; exact refX)); (case hx => rfl))
    | exact leRX)
end Go.Proofs.Ytdcabfonjmeajaa.POrder
set_option linter.unusedVariables false
set_option linter.unusedSimpArgs false
namespace Go.Proofs.Ytdcabfonjmeajaa.POrder
open Go.RowKit Go.Proofs.YtdcabfonjmeajaaW.PrintWords Go.Proofs.YtdcabfonjmeajaaW.PrintLast Go.Proofs.YtdcabfonjmeajaaW.PrintMore Go.Proofs.Ytdcabfonjmeajaa.Abs
/-! ### conf_unlike: function 42 -/
mutual
def conf_unlike.l0 : Nat → List (S66) → List (S66) → Int → Int → Option (Bool)
  | 0, _, _, _, _ => none
  | k + 1, x3, x10, x11, x12 => if x12 < x11 then (if 0 ≤ x12 then (if x12 < (x10.length : Int) then (conf_unlike.l1 k x3 x12 x10 x11 x12 x3 (x3.length : Int) 0 ((rd_T66 x10 x12).f0) ((rd_T66 x10 x12).f1) ((rd_T66 x10 x12).f2.f0) ((rd_T66 x10 x12).f2.f1) ((rd_T66 x10 x12).f2.f2) ((rd_T66 x10 x12).f2.f3) ((rd_T66 x10 x12).f2.f4) ((rd_T66 x10 x12).f2.f5) ((rd_T66 x10 x12).f2.f6)) else (none)) else (none)) else (some true)
def conf_unlike.l1 : Nat → List (S66) → Int → List (S66) → Int → Int → List (S66) → Int → Int → Int → Int → Int → Int → List (S62) → List (S59) → Int → Int → Int → Option (Bool)
  | 0, _, _, _, _, _, _, _, _, _, _, _, _, _, _, _, _, _ => none
  | k + 1, x3, x4, x10, x11, x12, x17, x18, x19, x188000, x188001, x188002, x188003, x188004, x188005, x188006, x188007, x188008 => if x19 < x18 then (if 0 ≤ x19 then (if x19 < (x17.length : Int) then ((conf_once.f k x188000 x188001 x188002 x188003 x188004 x188005 x188006 x188007 x188008 ((rd_T66 x17 x19).f0) ((rd_T66 x17 x19).f1) ((rd_T66 x17 x19).f2.f0) ((rd_T66 x17 x19).f2.f1) ((rd_T66 x17 x19).f2.f2) ((rd_T66 x17 x19).f2.f3) ((rd_T66 x17 x19).f2.f4) ((rd_T66 x17 x19).f2.f5) ((rd_T66 x17 x19).f2.f6) (x4 == x19)).bind fun t190 => (if t190 = true then (conf_unlike.l1 k x3 x4 x10 x11 x12 x17 x18 (wrap64 (x19 + 1)) x188000 x188001 x188002 x188003 x188004 x188005 x188006 x188007 x188008) else (some false))) else (none)) else (none)) else (conf_unlike.l0 k x3 x10 x11 (wrap64 (x12 + 1)))
end
def conf_unlike.f (k : Nat) (a0_0 : Int) (a0_1 : Int) (l0_2 : List (S41)) : Option (Bool) := (conf_spots.f k a0_0 a0_1 l0_2).bind fun t183 => (conf_unlike.l0 k t183 t183 (t183.length : Int) 0)
noncomputable def conf_unlike.cx : Cx := ⟨Try.prog, tys, glo, 33, Try.f42, [.tmp 2], 0⟩
set_option maxHeartbeats 16000000 in
set_option maxRecDepth 100000 in
theorem conf_unlike.ok {k : Nat} {a0_0 : Int} {a0_1 : Int} {l0_2 : List (S41)} {r0 : Bool} (H : conf_unlike.f k a0_0 a0_1 l0_2 = some r0) : CallOK Try.prog glo 42 [.agg [.imm (.int .i64 a0_0), .imm (.int .i64 a0_1), vS41 l0_2]] (.imm (.bool r0)) := by
  unfold conf_unlike.f at H
  refine CallOK.of (c := conf_unlike.cx) Try.func42 (show (conf_unlike.cx).fn.body = some _ from rfl) rfl rfl (Nat.le_of_ble_eq_true rfl) rfl ?_
  repeat' (first
    | ((with_reducible replace H := some_ite H); obtain ⟨_, H⟩ := H)
    | (with_reducible replace H := true_ite H)
    | (with_reducible replace H := false_ite H)
    | ((with_reducible have hb := bool_ite H); clear H; rcases hb with ⟨e_, H⟩ | ⟨e_, H⟩ <;> subst e_)
    | ((with_reducible apply ROps.pure); (case hop => rfl); (case hw => rfl); (case hdst => rfl); (case hd => rfl))
    | (with_reducible apply ROps.nil)
    | (with_reducible apply Runs.seq)
    | (with_reducible apply Runs.region tysOK)
    | (with_reducible apply Runs.block)
    | (with_reducible apply Runs.skip)
    | (with_reducible apply Runs.inBlock)
    | (with_reducible apply Runs.scope)
    | (with_reducible apply Runs.inScope)
    | (with_reducible apply Runs.label)
    | ((with_reducible apply Runs.condT); (case ho => rfl))
    | ((with_reducible apply Runs.condF); (case ho => rfl))
    | ((with_reducible apply Runs.exit); (case he => rfl))
    | ((with_reducible apply ROps.store); (case hop => rfl); (case hp => rfl); (case hR => rfl); (case hc => rfl); (case hl => first | (dsimp only [setR_one, setR, Nat.beq, cond]; done) | (dsimp only [setR_one, setR, Nat.beq, cond]; rfl) | rfl); (case hl' => first | (dsimp only [List.take, List.drop, List.append, List.nil_append, List.cons_append, List.map, List.length, Nat.add]; rfl) | rfl); (case hw => rfl); (all_goals try rfl))
    | ((with_reducible apply ROps.cmp); (case hop => exact cmpX); (case hw => rfl); (case hdst => rfl); (case hd => rfl); (all_goals (intro h; first | (replace H := ite_pos_ h H) | (replace H := ite_neg_ h H) | (replace H := dec_pos h H) | (replace H := dec_neg h H) | (replace H := dec_t h H) | (replace H := dec_f h H) | (replace H := beq_pos h H) | (replace H := beq_neg h H) | (replace H := beq_tt h H) | (replace H := beq_ff h H) | (replace H := ite_pos_ (Decidable.not_not.1 h) H) | (replace H := beq_pos (Decidable.not_not.1 h) H) | (replace H := beq_tt (Decidable.not_not.1 h) H) | ((try simp only [rd_T66, rdOf] at h); (try simp only [rd_T66, rdOf] at H); (rw [decide_eq_true h] at H)) | ((try simp only [rd_T66, rdOf] at h); (try simp only [rd_T66, rdOf] at H); (rw [decide_eq_false h] at H)) | ((try simp only [rd_T66, rdOf] at h); (try simp only [rd_T66, rdOf] at H); (rw [beq_t h] at H)) | ((try simp only [rd_T66, rdOf] at h); (try simp only [rd_T66, rdOf] at H); (rw [beq_f h] at H)) | ((try simp only [rd_T66, rdOf] at h); (try simp only [rd_T66, rdOf] at H); (rw [beq_t (Decidable.not_not.1 h)] at H)) | ((try simp only [rd_T66, rdOf] at h); (try simp only [rd_T66, rdOf] at H); (rw [if_pos h] at H)) | ((try simp only [rd_T66, rdOf] at h); (try simp only [rd_T66, rdOf] at H); (rw [if_neg h] at H)) | contradiction | skip)))
    | ((with_reducible apply ROps.val); (case hop => exact valX); (case hw => rfl); (case hdst => rfl); (case hd => rfl))
    | ((first | ((with_reducible apply ROps.eqS); case hop => rfl) | ((with_reducible apply ROps.neS); case hop => rfl)); (case ht => rfl); (case hx => rfl); (case hy => rfl); (case hl => rfl); (case hr => rfl); (case hw => rfl); (case hdst => rfl); (case hd => rfl); (all_goals (intro h; first | (replace H := ite_posF H h) | (replace H := ite_negF H h) | (dsimp only [eqP, eqA] at h) | skip)))
    | ((with_reducible apply ROps.idx); (case hop => rfl); (case hx => rfl); (case hi => rfl); (case he => rfl); (case hw => rfl); (case hdst => rfl); (case hd => rfl); (case h0 => first | assumption | omega); (case h1 => first | assumption | omega))
    | ((with_reducible apply ROps.alloc); (case hop => rfl); (case hw => rfl); (all_goals try rfl))
    | ((with_reducible apply ROps.box); (case hop => rfl); (case hx => rfl); (case hrf => rfl); (case hw => rfl); (all_goals try rfl))
    | ((with_reducible have hB : (conf_spots.f _ _ _ _).bind _ = some _ := H); clear hB; (replace H := bind_some' H); (obtain ⟨t_, H1, H⟩ := H); (try dsimp only at H); (with_reducible apply ROps.call); (case hop => rfl); (case hc => exact conf_spots.ok H1); (case ha => exact argsX); (case hw => rfl); (case hdst => rfl); (case hd => rfl))
    | ((with_reducible have hB : (conf_once.f _ _ _ _ _ _ _ _ _ _ _ _ _ _ _ _ _ _ _ _).bind _ = some _ := H); clear hB; (replace H := bind_some' H); (obtain ⟨t_, H1, H⟩ := H); (try dsimp only at H); (with_reducible apply ROps.call); (case hop => rfl); (case hc => exact conf_once.ok H1); (case ha => exact argsX); (case hw => rfl); (case hdst => rfl); (case hd => rfl))
    | ((with_reducible apply Runs.loopK1 ((fun i0 i1 i2 => fun kk (v0_12 : Int) => conf_unlike.l0 kk i0 i1 i2 v0_12) _ _ _) [3, 10, 11] [] (fun b v0_12 => [(12, .imm (.int .i64 v0_12))]) (fun v0_12 => []) _ _ [] H); (case h0 => intros; rfl); (any_goals (clear H; intro k0 hk0 ih0 v0_12 H; replace H : conf_unlike.l0 (k0 + 1) _ _ _ v0_12 = some _ := H; rw [conf_unlike.l0] at H)))
    | (with_reducible apply ih0 _ _ [] _ _ (by omega) H)
    | ((with_reducible apply Runs.loopK1 ((fun i0 i1 i2 i3 i4 i5 i6 i7 i8 i9 i10 i11 i12 i13 i14 i15 => fun kk (v1_19 : Int) => conf_unlike.l1 kk i0 i1 i2 i3 i4 i5 i6 v1_19 i7 i8 i9 i10 i11 i12 i13 i14 i15) _ _ _ _ _ _ _ _ _ _ _ _ _ _ _ _) [3, 4, 5, 10, 11, 12, 17, 18] [] (fun b v1_19 => [(19, .imm (.int .i64 v1_19))]) (fun v1_19 => []) _ _ [] H); (case h0 => intros; rfl); (any_goals (clear H; intro k1 hk1 ih1 v1_19 H; replace H : conf_unlike.l1 (k1 + 1) _ _ _ _ _ _ _ v1_19 _ _ _ _ _ _ _ _ _ = some _ := H; rw [conf_unlike.l1] at H)))
    | (with_reducible apply ih1 _ _ [] _ _ (by omega) H)
    | ((with_reducible apply Runs.retP tysOK); (case hrs => rfl); (case h => rfl); (case hr => (cases H; exact refX)); (case hx => rfl))
    | exact leRX)
end Go.Proofs.Ytdcabfonjmeajaa.POrder
set_option linter.unusedVariables false
set_option linter.unusedSimpArgs false
namespace Go.Proofs.Ytdcabfonjmeajaa.POrder
open Go.RowKit Go.Proofs.YtdcabfonjmeajaaW.PrintWords Go.Proofs.YtdcabfonjmeajaaW.PrintLast Go.Proofs.YtdcabfonjmeajaaW.PrintMore Go.Proofs.Ytdcabfonjmeajaa.Abs
/-! ### conf_Check: function 16 -/
def conf_Check.f (k : Nat) (a0_0 : Int) (a0_1 : Int) (l0_2 : List (S41)) : Option (Int) := (conf_form.f k a0_0 a0_1 l0_2).bind fun t192 => (if t192 = true then ((conf_placed.f k a0_0 a0_1 l0_2).bind fun t193 => (if t193 = true then ((conf_unlike.f k a0_0 a0_1 l0_2).bind fun t194 => (if t194 = true then (some 0) else (some 8))) else (some 9))) else (some 1))
noncomputable def conf_Check.cx : Cx := ⟨Try.prog, tys, glo, 15, Try.f16, [.tmp 2], 0⟩
set_option maxHeartbeats 16000000 in
set_option maxRecDepth 100000 in
theorem conf_Check.ok {k : Nat} {a0_0 : Int} {a0_1 : Int} {l0_2 : List (S41)} {r0 : Int} (H : conf_Check.f k a0_0 a0_1 l0_2 = some r0) : CallOK Try.prog glo 16 [.agg [.imm (.int .i64 a0_0), .imm (.int .i64 a0_1), vS41 l0_2]] (.imm (.int .i64 r0)) := by
  unfold conf_Check.f at H
  refine CallOK.of (c := conf_Check.cx) Try.func16 (show (conf_Check.cx).fn.body = some _ from rfl) rfl rfl (Nat.le_of_ble_eq_true rfl) rfl ?_
  repeat' (first
    | ((with_reducible replace H := some_ite H); obtain ⟨_, H⟩ := H)
    | (with_reducible replace H := true_ite H)
    | (with_reducible replace H := false_ite H)
    | ((with_reducible have hb := bool_ite H); clear H; rcases hb with ⟨e_, H⟩ | ⟨e_, H⟩ <;> subst e_)
    | ((with_reducible apply ROps.pure); (case hop => rfl); (case hw => rfl); (case hdst => rfl); (case hd => rfl))
    | (with_reducible apply ROps.nil)
    | (with_reducible apply Runs.seq)
    | (with_reducible apply Runs.region tysOK)
    | (with_reducible apply Runs.block)
    | (with_reducible apply Runs.skip)
    | (with_reducible apply Runs.inBlock)
    | (with_reducible apply Runs.scope)
    | (with_reducible apply Runs.inScope)
    | (with_reducible apply Runs.label)
    | ((with_reducible apply Runs.condT); (case ho => rfl))
    | ((with_reducible apply Runs.condF); (case ho => rfl))
    | ((with_reducible apply ROps.box); (case hop => rfl); (case hx => rfl); (case hrf => rfl); (case hw => rfl); (all_goals try rfl))
    | ((with_reducible have hB : (conf_form.f _ _ _ _).bind _ = some _ := H); clear hB; (replace H := bind_some' H); (obtain ⟨t_, H1, H⟩ := H); (try dsimp only at H); (with_reducible apply ROps.call); (case hop => rfl); (case hc => exact conf_form.ok H1); (case ha => exact argsX); (case hw => rfl); (case hdst => rfl); (case hd => rfl))
    | ((with_reducible have hB : (conf_placed.f _ _ _ _).bind _ = some _ := H); clear hB; (replace H := bind_some' H); (obtain ⟨t_, H1, H⟩ := H); (try dsimp only at H); (with_reducible apply ROps.call); (case hop => rfl); (case hc => exact conf_placed.ok H1); (case ha => exact argsX); (case hw => rfl); (case hdst => rfl); (case hd => rfl))
    | ((with_reducible have hB : (conf_unlike.f _ _ _ _).bind _ = some _ := H); clear hB; (replace H := bind_some' H); (obtain ⟨t_, H1, H⟩ := H); (try dsimp only at H); (with_reducible apply ROps.call); (case hop => rfl); (case hc => exact conf_unlike.ok H1); (case ha => exact argsX); (case hw => rfl); (case hdst => rfl); (case hd => rfl))
    | ((with_reducible apply Runs.retP tysOK); (case hrs => rfl); (case h => rfl); (case hr => (cases H; exact refX)); (case hx => rfl))
    | exact leRX)
end Go.Proofs.Ytdcabfonjmeajaa.POrder
set_option linter.unusedVariables false
set_option linter.unusedSimpArgs false
namespace Go.Proofs.Ytdcabfonjmeajaa.POrder
open Go.RowKit Go.Proofs.YtdcabfonjmeajaaW.PrintWords Go.Proofs.YtdcabfonjmeajaaW.PrintLast Go.Proofs.YtdcabfonjmeajaaW.PrintMore Go.Proofs.Ytdcabfonjmeajaa.Abs
/-! ### conf_right: function 46 -/
def conf_right.f (k : Nat) (a0_0 : Int) (a0_1 : Int) (l0_2 : List (S41)) : Option ((List (S66))) := (conf_Check.f k a0_0 a0_1 l0_2).bind fun t196 => (if t196 = 0 then ((conf_spots.f k a0_0 a0_1 l0_2).bind fun t197 => (some t197)) else (some ([] : List (S66))))
noncomputable def conf_right.cx : Cx := ⟨Try.prog, tys, glo, 8, Try.f46, [.tmp 2], 0⟩
set_option maxHeartbeats 16000000 in
set_option maxRecDepth 100000 in
theorem conf_right.ok {k : Nat} {a0_0 : Int} {a0_1 : Int} {l0_2 : List (S41)} {r0 : List (S66)} (H : conf_right.f k a0_0 a0_1 l0_2 = some r0) : CallOK Try.prog glo 46 [.agg [.imm (.int .i64 a0_0), .imm (.int .i64 a0_1), vS41 l0_2]] (vS66 r0) := by
  unfold conf_right.f at H
  refine CallOK.of (c := conf_right.cx) Try.func46 (show (conf_right.cx).fn.body = some _ from rfl) rfl rfl (Nat.le_of_ble_eq_true rfl) rfl ?_
  repeat' (first
    | ((with_reducible replace H := some_ite H); obtain ⟨_, H⟩ := H)
    | (with_reducible replace H := true_ite H)
    | (with_reducible replace H := false_ite H)
    | ((with_reducible have hb := bool_ite H); clear H; rcases hb with ⟨e_, H⟩ | ⟨e_, H⟩ <;> subst e_)
    | ((with_reducible apply ROps.pure); (case hop => rfl); (case hw => rfl); (case hdst => rfl); (case hd => rfl))
    | (with_reducible apply ROps.nil)
    | (with_reducible apply Runs.seq)
    | (with_reducible apply Runs.region tysOK)
    | (with_reducible apply Runs.skip)
    | (with_reducible apply Runs.scope)
    | (with_reducible apply Runs.inScope)
    | (with_reducible apply Runs.label)
    | ((with_reducible apply Runs.condT); (case ho => rfl))
    | ((with_reducible apply Runs.condF); (case ho => rfl))
    | ((with_reducible apply ROps.cmp); (case hop => exact cmpX); (case hw => rfl); (case hdst => rfl); (case hd => rfl); (all_goals (intro h; first | (replace H := ite_pos_ h H) | (replace H := ite_neg_ h H) | (replace H := beq_pos h H) | (replace H := beq_neg h H) | (replace H := beq_tt h H) | (replace H := beq_ff h H) | (replace H := ite_pos_ (Decidable.not_not.1 h) H) | (replace H := beq_pos (Decidable.not_not.1 h) H) | (replace H := beq_tt (Decidable.not_not.1 h) H) | ((try simp only [rdOf] at h); (try simp only [rdOf] at H); (rw [beq_t h] at H)) | ((try simp only [rdOf] at h); (try simp only [rdOf] at H); (rw [beq_f h] at H)) | ((try simp only [rdOf] at h); (try simp only [rdOf] at H); (rw [bne_t h] at H)) | ((try simp only [rdOf] at h); (try simp only [rdOf] at H); (rw [bne_f h] at H)) | ((try simp only [rdOf] at h); (try simp only [rdOf] at H); (rw [beq_t (Decidable.not_not.1 h)] at H)) | ((try simp only [rdOf] at h); (try simp only [rdOf] at H); (rw [bne_f (Decidable.not_not.1 h)] at H)) | ((try simp only [rdOf] at h); (try simp only [rdOf] at H); (rw [if_pos h] at H)) | ((try simp only [rdOf] at h); (try simp only [rdOf] at H); (rw [if_neg h] at H)) | contradiction | skip)))
    | ((with_reducible apply ROps.val); (case hop => exact valX); (case hw => rfl); (case hdst => rfl); (case hd => rfl))
    | ((first | ((with_reducible apply ROps.eqS); case hop => rfl) | ((with_reducible apply ROps.neS); case hop => rfl)); (case ht => rfl); (case hx => rfl); (case hy => rfl); (case hl => rfl); (case hr => rfl); (case hw => rfl); (case hdst => rfl); (case hd => rfl); (all_goals (intro h; first | (replace H := ite_posF H h) | (replace H := ite_negF H h) | (dsimp only [eqP, eqA] at h) | skip)))
    | ((with_reducible apply ROps.box); (case hop => rfl); (case hx => rfl); (case hrf => rfl); (case hw => rfl); (all_goals try rfl))
    | ((with_reducible have hB : (conf_Check.f _ _ _ _).bind _ = some _ := H); clear hB; (replace H := bind_some' H); (obtain ⟨t_, H1, H⟩ := H); (try dsimp only at H); (with_reducible apply ROps.call); (case hop => rfl); (case hc => exact conf_Check.ok H1); (case ha => exact argsX); (case hw => rfl); (case hdst => rfl); (case hd => rfl))
    | ((with_reducible have hB : (conf_spots.f _ _ _ _).bind _ = some _ := H); clear hB; (replace H := bind_some' H); (obtain ⟨t_, H1, H⟩ := H); (try dsimp only at H); (with_reducible apply ROps.call); (case hop => rfl); (case hc => exact conf_spots.ok H1); (case ha => exact argsX); (case hw => rfl); (case hdst => rfl); (case hd => rfl))
    | ((with_reducible apply Runs.retP tysOK); (case hrs => rfl); (case h => rfl); (case hr => (cases H; exact refX)); (case hx => rfl))
    | exact leRX)
end Go.Proofs.Ytdcabfonjmeajaa.POrder
set_option linter.unusedVariables false
set_option linter.unusedSimpArgs false
namespace Go.Proofs.Ytdcabfonjmeajaa.POrder
open Go.RowKit Go.Proofs.YtdcabfonjmeajaaW.PrintWords Go.Proofs.YtdcabfonjmeajaaW.PrintLast Go.Proofs.YtdcabfonjmeajaaW.PrintMore Go.Proofs.Ytdcabfonjmeajaa.Abs
/-! ### conf_KeptFor: function 18 -/
mutual
def conf_KeptFor.l0 : Nat → Int → ByteArray → List (S66) → Int → Int → Option (Int × Bool)
  | 0, _, _, _, _, _ => none
  | k + 1, x1, x2, x13, x14, x15 => if x15 < x14 then (if 0 ≤ x15 then (if x15 < (x13.length : Int) then (conf_KeptFor.l1 k x1 x2 x13 x14 x15 ((rd_T66 x13 x15).f2.f3) (((rd_T66 x13 x15).f2.f3).length : Int) 0 ((rd_T66 x13 x15).f0) ((rd_T66 x13 x15).f1) ((rd_T66 x13 x15).f2.f0) ((rd_T66 x13 x15).f2.f1) ((rd_T66 x13 x15).f2.f2) ((rd_T66 x13 x15).f2.f3) ((rd_T66 x13 x15).f2.f4) ((rd_T66 x13 x15).f2.f5) ((rd_T66 x13 x15).f2.f6)) else (none)) else (none)) else (some (0, false))
def conf_KeptFor.l1 : Nat → Int → ByteArray → List (S66) → Int → Int → List (S59) → Int → Int → Int → Int → Int → Int → List (S62) → List (S59) → Int → Int → Int → Option (Int × Bool)
  | 0, _, _, _, _, _, _, _, _, _, _, _, _, _, _, _, _, _ => none
  | k + 1, x1, x2, x13, x14, x15, x21, x22, x23, x206000, x206001, x206002, x206003, x206004, x206005, x206006, x206007, x206008 => if x23 < x22 then (if 0 ≤ x23 then (if x23 < (x21.length : Int) then (if x206000 = x1 then (if ((rd_T59 x21 x23).f0).toList = x2.toList then (some ((rd_T59 x21 x23).f1, true)) else (conf_KeptFor.l1 k x1 x2 x13 x14 x15 x21 x22 (wrap64 (x23 + 1)) x206000 x206001 x206002 x206003 x206004 x206005 x206006 x206007 x206008)) else (conf_KeptFor.l1 k x1 x2 x13 x14 x15 x21 x22 (wrap64 (x23 + 1)) x206000 x206001 x206002 x206003 x206004 x206005 x206006 x206007 x206008)) else (none)) else (none)) else (conf_KeptFor.l0 k x1 x2 x13 x14 (wrap64 (x15 + 1)))
end
def conf_KeptFor.f (k : Nat) (a0_0 : Int) (a0_1 : Int) (l0_2 : List (S41)) (a1 : Int) (a2 : ByteArray) : Option (Int × Bool) := (conf_right.f k a0_0 a0_1 l0_2).bind fun t201 => (conf_KeptFor.l0 k a1 a2 t201 (t201.length : Int) 0)
noncomputable def conf_KeptFor.cx : Cx := ⟨Try.prog, tys, glo, 41, Try.f18, [.tmp 6, .tmp 7], 0⟩
set_option maxHeartbeats 16000000 in
set_option maxRecDepth 100000 in
theorem conf_KeptFor.ok {k : Nat} {a0_0 : Int} {a0_1 : Int} {l0_2 : List (S41)} {a1 : Int} {a2 : ByteArray} {r0 : Int} {r1 : Bool} (H : conf_KeptFor.f k a0_0 a0_1 l0_2 a1 a2 = some (r0, r1)) : CallOK Try.prog glo 18 [.agg [.imm (.int .i64 a0_0), .imm (.int .i64 a0_1), vS41 l0_2], .imm (.int .i64 a1), .imm (.string a2)] (.tup [.imm (.int .i64 r0), .imm (.bool r1)]) := by
  unfold conf_KeptFor.f at H
  refine CallOK.of (c := conf_KeptFor.cx) Try.func18 (show (conf_KeptFor.cx).fn.body = some _ from rfl) rfl rfl (Nat.le_of_ble_eq_true rfl) rfl ?_
  repeat' (first
    | ((with_reducible replace H := some_ite H); obtain ⟨_, H⟩ := H)
    | (with_reducible replace H := true_ite H)
    | (with_reducible replace H := false_ite H)
    | ((with_reducible have hb := bool_ite H); clear H; rcases hb with ⟨e_, H⟩ | ⟨e_, H⟩ <;> subst e_)
    | ((with_reducible apply ROps.pure); (case hop => rfl); (case hw => rfl); (case hdst => rfl); (case hd => rfl))
    | (with_reducible apply ROps.nil)
    | (with_reducible apply Runs.seq)
    | (with_reducible apply Runs.region tysOK)
    | (with_reducible apply Runs.block)
    | (with_reducible apply Runs.skip)
    | (with_reducible apply Runs.inBlock)
    | (with_reducible apply Runs.scope)
    | (with_reducible apply Runs.inScope)
    | (with_reducible apply Runs.label)
    | ((with_reducible apply Runs.condT); (case ho => rfl))
    | ((with_reducible apply Runs.condF); (case ho => rfl))
    | ((with_reducible apply Runs.exit); (case he => rfl))
    | ((with_reducible apply ROps.store); (case hop => rfl); (case hp => rfl); (case hR => rfl); (case hc => rfl); (case hl => first | (dsimp only [setR_one, setR, Nat.beq, cond]; done) | (dsimp only [setR_one, setR, Nat.beq, cond]; rfl) | rfl); (case hl' => first | (dsimp only [List.take, List.drop, List.append, List.nil_append, List.cons_append, List.map, List.length, Nat.add]; rfl) | rfl); (case hw => rfl); (all_goals try rfl))
    | ((with_reducible apply ROps.cmp); (case hop => exact cmpX); (case hw => rfl); (case hdst => rfl); (case hd => rfl); (all_goals (intro h; first | (replace H := ite_pos_ h H) | (replace H := ite_neg_ h H) | (replace H := dec_pos h H) | (replace H := dec_neg h H) | (replace H := dec_t h H) | (replace H := dec_f h H) | (replace H := beq_pos h H) | (replace H := beq_neg h H) | (replace H := beq_tt h H) | (replace H := beq_ff h H) | (replace H := ite_pos_ (Decidable.not_not.1 h) H) | (replace H := beq_pos (Decidable.not_not.1 h) H) | (replace H := beq_tt (Decidable.not_not.1 h) H) | ((try simp only [rd_T59, rd_T66, rdOf] at h); (try simp only [rd_T59, rd_T66, rdOf] at H); (rw [decide_eq_true h] at H)) | ((try simp only [rd_T59, rd_T66, rdOf] at h); (try simp only [rd_T59, rd_T66, rdOf] at H); (rw [decide_eq_false h] at H)) | ((try simp only [rd_T59, rd_T66, rdOf] at h); (try simp only [rd_T59, rd_T66, rdOf] at H); (rw [beq_t h] at H)) | ((try simp only [rd_T59, rd_T66, rdOf] at h); (try simp only [rd_T59, rd_T66, rdOf] at H); (rw [beq_f h] at H)) | ((try simp only [rd_T59, rd_T66, rdOf] at h); (try simp only [rd_T59, rd_T66, rdOf] at H); (rw [bne_t h] at H)) | ((try simp only [rd_T59, rd_T66, rdOf] at h); (try simp only [rd_T59, rd_T66, rdOf] at H); (rw [bne_f h] at H)) | ((try simp only [rd_T59, rd_T66, rdOf] at h); (try simp only [rd_T59, rd_T66, rdOf] at H); (rw [beq_t (Decidable.not_not.1 h)] at H)) | ((try simp only [rd_T59, rd_T66, rdOf] at h); (try simp only [rd_T59, rd_T66, rdOf] at H); (rw [bne_f (Decidable.not_not.1 h)] at H)) | ((try simp only [rd_T59, rd_T66, rdOf] at h); (try simp only [rd_T59, rd_T66, rdOf] at H); (rw [if_pos h] at H)) | ((try simp only [rd_T59, rd_T66, rdOf] at h); (try simp only [rd_T59, rd_T66, rdOf] at H); (rw [if_neg h] at H)) | contradiction | skip)))
    | ((with_reducible apply ROps.val); (case hop => exact valX); (case hw => rfl); (case hdst => rfl); (case hd => rfl))
    | ((first | ((with_reducible apply ROps.eqS); case hop => rfl) | ((with_reducible apply ROps.neS); case hop => rfl)); (case ht => rfl); (case hx => rfl); (case hy => rfl); (case hl => rfl); (case hr => rfl); (case hw => rfl); (case hdst => rfl); (case hd => rfl); (all_goals (intro h; first | (replace H := ite_posF H h) | (replace H := ite_negF H h) | (dsimp only [eqP, eqA] at h) | skip)))
    | ((with_reducible apply ROps.idx); (case hop => rfl); (case hx => rfl); (case hi => rfl); (case he => rfl); (case hw => rfl); (case hdst => rfl); (case hd => rfl); (case h0 => first | assumption | omega); (case h1 => first | assumption | omega))
    | ((with_reducible apply ROps.alloc); (case hop => rfl); (case hw => rfl); (all_goals try rfl))
    | ((with_reducible apply ROps.box); (case hop => rfl); (case hx => rfl); (case hrf => rfl); (case hw => rfl); (all_goals try rfl))
    | ((with_reducible apply ROps.off); (case hw => rfl); (case hdst => rfl); (case hd => rfl))
    | ((with_reducible have hB : (conf_right.f _ _ _ _).bind _ = some _ := H); clear hB; (replace H := bind_some' H); (obtain ⟨t_, H1, H⟩ := H); (try dsimp only at H); (with_reducible apply ROps.call); (case hop => rfl); (case hc => exact conf_right.ok H1); (case ha => exact argsX); (case hw => rfl); (case hdst => rfl); (case hd => rfl))
    | ((with_reducible apply Runs.loopK1 ((fun i0 i1 i2 i3 => fun kk (v0_15 : Int) => conf_KeptFor.l0 kk i0 i1 i2 i3 v0_15) _ _ _ _) [1, 2, 13, 14] [] (fun b v0_15 => [(15, .imm (.int .i64 v0_15))]) (fun v0_15 => []) _ _ [] H); (case h0 => intros; rfl); (any_goals (clear H; intro k0 hk0 ih0 v0_15 H; replace H : conf_KeptFor.l0 (k0 + 1) _ _ _ _ v0_15 = some _ := H; rw [conf_KeptFor.l0] at H)))
    | (with_reducible apply ih0 _ _ [] _ _ (by omega) H)
    | ((with_reducible apply Runs.loopK1 ((fun i0 i1 i2 i3 i4 i5 i6 i7 i8 i9 i10 i11 i12 i13 i14 i15 => fun kk (v1_23 : Int) => conf_KeptFor.l1 kk i0 i1 i2 i3 i4 i5 i6 v1_23 i7 i8 i9 i10 i11 i12 i13 i14 i15) _ _ _ _ _ _ _ _ _ _ _ _ _ _ _ _) [1, 2, 9, 13, 14, 15, 21, 22] [] (fun b v1_23 => [(23, .imm (.int .i64 v1_23))]) (fun v1_23 => []) _ _ [] H); (case h0 => intros; rfl); (any_goals (clear H; intro k1 hk1 ih1 v1_23 H; replace H : conf_KeptFor.l1 (k1 + 1) _ _ _ _ _ _ _ v1_23 _ _ _ _ _ _ _ _ _ = some _ := H; rw [conf_KeptFor.l1] at H)))
    | (with_reducible apply ih1 _ _ [] _ _ (by omega) H)
    | ((with_reducible apply Runs.retP tysOK); (case hrs => rfl); (case h => rfl); (case hr => (cases H; exact refX)); (case hx => rfl))
    | exact leRX)
end Go.Proofs.Ytdcabfonjmeajaa.POrder
set_option linter.unusedVariables false
set_option linter.unusedSimpArgs false
namespace Go.Proofs.Ytdcabfonjmeajaa.POrder
open Go.RowKit Go.Proofs.YtdcabfonjmeajaaW.PrintWords Go.Proofs.YtdcabfonjmeajaaW.PrintLast Go.Proofs.YtdcabfonjmeajaaW.PrintMore Go.Proofs.Ytdcabfonjmeajaa.Abs
/-! ### conf_Keeper: function 20 -/
mutual
def conf_Keeper.l0 : Nat → Int → List (S66) → Int → Int → Option (ByteArray × Bool)
  | 0, _, _, _, _ => none
  | k + 1, x1, x11, x12, x13 => if x13 < x12 then (if 0 ≤ x13 then (if x13 < (x11.length : Int) then (conf_Keeper.l1 k x1 x11 x12 x13 ((rd_T66 x11 x13).f2.f3) (((rd_T66 x11 x13).f2.f3).length : Int) 0) else (none)) else (none)) else (some ((⟨#[]⟩ : ByteArray), false))
def conf_Keeper.l1 : Nat → Int → List (S66) → Int → Int → List (S59) → Int → Int → Option (ByteArray × Bool)
  | 0, _, _, _, _, _, _, _ => none
  | k + 1, x1, x11, x12, x13, x19, x20, x21 => if x21 < x20 then (if 0 ≤ x21 then (if x21 < (x19.length : Int) then (if ((rd_T59 x19 x21).f1) = x1 then (some ((rd_T59 x19 x21).f0, true)) else (conf_Keeper.l1 k x1 x11 x12 x13 x19 x20 (wrap64 (x21 + 1)))) else (none)) else (none)) else (conf_Keeper.l0 k x1 x11 x12 (wrap64 (x13 + 1)))
end
def conf_Keeper.f (k : Nat) (a0_0 : Int) (a0_1 : Int) (l0_2 : List (S41)) (a1 : Int) : Option (ByteArray × Bool) := (conf_right.f k a0_0 a0_1 l0_2).bind fun t209 => (conf_Keeper.l0 k a1 t209 (t209.length : Int) 0)
noncomputable def conf_Keeper.cx : Cx := ⟨Try.prog, tys, glo, 33, Try.f20, [.tmp 4, .tmp 5], 0⟩
set_option maxHeartbeats 16000000 in
set_option maxRecDepth 100000 in
theorem conf_Keeper.ok {k : Nat} {a0_0 : Int} {a0_1 : Int} {l0_2 : List (S41)} {a1 : Int} {r0 : ByteArray} {r1 : Bool} (H : conf_Keeper.f k a0_0 a0_1 l0_2 a1 = some (r0, r1)) : CallOK Try.prog glo 20 [.agg [.imm (.int .i64 a0_0), .imm (.int .i64 a0_1), vS41 l0_2], .imm (.int .i64 a1)] (.tup [.imm (.string r0), .imm (.bool r1)]) := by
  unfold conf_Keeper.f at H
  refine CallOK.of (c := conf_Keeper.cx) Try.func20 (show (conf_Keeper.cx).fn.body = some _ from rfl) rfl rfl (Nat.le_of_ble_eq_true rfl) rfl ?_
  repeat' (first
    | ((with_reducible replace H := some_ite H); obtain ⟨_, H⟩ := H)
    | (with_reducible replace H := true_ite H)
    | (with_reducible replace H := false_ite H)
    | ((with_reducible have hb := bool_ite H); clear H; rcases hb with ⟨e_, H⟩ | ⟨e_, H⟩ <;> subst e_)
    | ((with_reducible apply ROps.pure); (case hop => rfl); (case hw => rfl); (case hdst => rfl); (case hd => rfl))
    | (with_reducible apply ROps.nil)
    | (with_reducible apply Runs.seq)
    | (with_reducible apply Runs.region tysOK)
    | (with_reducible apply Runs.block)
    | (with_reducible apply Runs.skip)
    | (with_reducible apply Runs.inBlock)
    | (with_reducible apply Runs.scope)
    | (with_reducible apply Runs.inScope)
    | (with_reducible apply Runs.label)
    | ((with_reducible apply Runs.condT); (case ho => rfl))
    | ((with_reducible apply Runs.condF); (case ho => rfl))
    | ((with_reducible apply Runs.exit); (case he => rfl))
    | ((with_reducible apply ROps.store); (case hop => rfl); (case hp => rfl); (case hR => rfl); (case hc => rfl); (case hl => first | (dsimp only [setR_one, setR, Nat.beq, cond]; done) | (dsimp only [setR_one, setR, Nat.beq, cond]; rfl) | rfl); (case hl' => first | (dsimp only [List.take, List.drop, List.append, List.nil_append, List.cons_append, List.map, List.length, Nat.add]; rfl) | rfl); (case hw => rfl); (all_goals try rfl))
    | ((with_reducible apply ROps.cmp); (case hop => exact cmpX); (case hw => rfl); (case hdst => rfl); (case hd => rfl); (all_goals (intro h; first | (replace H := ite_pos_ h H) | (replace H := ite_neg_ h H) | (replace H := dec_pos h H) | (replace H := dec_neg h H) | (replace H := dec_t h H) | (replace H := dec_f h H) | (replace H := beq_pos h H) | (replace H := beq_neg h H) | (replace H := beq_tt h H) | (replace H := beq_ff h H) | (replace H := ite_pos_ (Decidable.not_not.1 h) H) | (replace H := beq_pos (Decidable.not_not.1 h) H) | (replace H := beq_tt (Decidable.not_not.1 h) H) | ((try simp only [rd_T59, rd_T66, rdOf] at h); (try simp only [rd_T59, rd_T66, rdOf] at H); (rw [decide_eq_true h] at H)) | ((try simp only [rd_T59, rd_T66, rdOf] at h); (try simp only [rd_T59, rd_T66, rdOf] at H); (rw [decide_eq_false h] at H)) | ((try simp only [rd_T59, rd_T66, rdOf] at h); (try simp only [rd_T59, rd_T66, rdOf] at H); (rw [beq_t h] at H)) | ((try simp only [rd_T59, rd_T66, rdOf] at h); (try simp only [rd_T59, rd_T66, rdOf] at H); (rw [beq_f h] at H)) | ((try simp only [rd_T59, rd_T66, rdOf] at h); (try simp only [rd_T59, rd_T66, rdOf] at H); (rw [bne_t h] at H)) | ((try simp only [rd_T59, rd_T66, rdOf] at h); (try simp only [rd_T59, rd_T66, rdOf] at H); (rw [bne_f h] at H)) | ((try simp only [rd_T59, rd_T66, rdOf] at h); (try simp only [rd_T59, rd_T66, rdOf] at H); (rw [beq_t (Decidable.not_not.1 h)] at H)) | ((try simp only [rd_T59, rd_T66, rdOf] at h); (try simp only [rd_T59, rd_T66, rdOf] at H); (rw [bne_f (Decidable.not_not.1 h)] at H)) | ((try simp only [rd_T59, rd_T66, rdOf] at h); (try simp only [rd_T59, rd_T66, rdOf] at H); (rw [if_pos h] at H)) | ((try simp only [rd_T59, rd_T66, rdOf] at h); (try simp only [rd_T59, rd_T66, rdOf] at H); (rw [if_neg h] at H)) | contradiction | skip)))
    | ((with_reducible apply ROps.val); (case hop => exact valX); (case hw => rfl); (case hdst => rfl); (case hd => rfl))
    | ((first | ((with_reducible apply ROps.eqS); case hop => rfl) | ((with_reducible apply ROps.neS); case hop => rfl)); (case ht => rfl); (case hx => rfl); (case hy => rfl); (case hl => rfl); (case hr => rfl); (case hw => rfl); (case hdst => rfl); (case hd => rfl); (all_goals (intro h; first | (replace H := ite_posF H h) | (replace H := ite_negF H h) | (dsimp only [eqP, eqA] at h) | skip)))
    | ((with_reducible apply ROps.idx); (case hop => rfl); (case hx => rfl); (case hi => rfl); (case he => rfl); (case hw => rfl); (case hdst => rfl); (case hd => rfl); (case h0 => first | assumption | omega); (case h1 => first | assumption | omega))
    | ((with_reducible apply ROps.alloc); (case hop => rfl); (case hw => rfl); (all_goals try rfl))
    | ((with_reducible apply ROps.box); (case hop => rfl); (case hx => rfl); (case hrf => rfl); (case hw => rfl); (all_goals try rfl))
    | ((with_reducible have hB : (conf_right.f _ _ _ _).bind _ = some _ := H); clear hB; (replace H := bind_some' H); (obtain ⟨t_, H1, H⟩ := H); (try dsimp only at H); (with_reducible apply ROps.call); (case hop => rfl); (case hc => exact conf_right.ok H1); (case ha => exact argsX); (case hw => rfl); (case hdst => rfl); (case hd => rfl))
    | ((with_reducible apply Runs.loopK1 ((fun i0 i1 i2 => fun kk (v0_13 : Int) => conf_Keeper.l0 kk i0 i1 i2 v0_13) _ _ _) [1, 11, 12] [] (fun b v0_13 => [(13, .imm (.int .i64 v0_13))]) (fun v0_13 => []) _ _ [] H); (case h0 => intros; rfl); (any_goals (clear H; intro k0 hk0 ih0 v0_13 H; replace H : conf_Keeper.l0 (k0 + 1) _ _ _ v0_13 = some _ := H; rw [conf_Keeper.l0] at H)))
    | (with_reducible apply ih0 _ _ [] _ _ (by omega) H)
    | ((with_reducible apply Runs.loopK1 ((fun i0 i1 i2 i3 i4 i5 => fun kk (v1_21 : Int) => conf_Keeper.l1 kk i0 i1 i2 i3 i4 i5 v1_21) _ _ _ _ _ _) [1, 11, 12, 13, 19, 20] [] (fun b v1_21 => [(21, .imm (.int .i64 v1_21))]) (fun v1_21 => []) _ _ [] H); (case h0 => intros; rfl); (any_goals (clear H; intro k1 hk1 ih1 v1_21 H; replace H : conf_Keeper.l1 (k1 + 1) _ _ _ _ _ _ v1_21 = some _ := H; rw [conf_Keeper.l1] at H)))
    | (with_reducible apply ih1 _ _ [] _ _ (by omega) H)
    | ((with_reducible apply Runs.retP tysOK); (case hrs => rfl); (case h => rfl); (case hr => (cases H; exact refX)); (case hx => rfl))
    | exact leRX)
end Go.Proofs.Ytdcabfonjmeajaa.POrder
set_option linter.unusedVariables false
set_option linter.unusedSimpArgs false
namespace Go.Proofs.Ytdcabfonjmeajaa.POrder
open Go.RowKit Go.Proofs.YtdcabfonjmeajaaW.PrintWords Go.Proofs.YtdcabfonjmeajaaW.PrintLast Go.Proofs.YtdcabfonjmeajaaW.PrintMore Go.Proofs.Ytdcabfonjmeajaa.Abs
/-! ### conf_InPool: function 22 -/
mutual
def conf_InPool.l0 : Nat → Int → Int → List (S66) → Int → Int → Option (Bool)
  | 0, _, _, _, _, _ => none
  | k + 1, x1, x2, x12, x13, x14 => if x14 < x13 then (if 0 ≤ x14 then (if x14 < (x12.length : Int) then (conf_InPool.l1 k x1 x2 x12 x13 x14 ((rd_T66 x12 x14).f2.f2) (((rd_T66 x12 x14).f2.f2).length : Int) 0 ((rd_T66 x12 x14).f0) ((rd_T66 x12 x14).f1) ((rd_T66 x12 x14).f2.f0) ((rd_T66 x12 x14).f2.f1) ((rd_T66 x12 x14).f2.f2) ((rd_T66 x12 x14).f2.f3) ((rd_T66 x12 x14).f2.f4) ((rd_T66 x12 x14).f2.f5) ((rd_T66 x12 x14).f2.f6)) else (none)) else (none)) else (some false)
def conf_InPool.l1 : Nat → Int → Int → List (S66) → Int → Int → List (S62) → Int → Int → Int → Int → Int → Int → List (S62) → List (S59) → Int → Int → Int → Option (Bool)
  | 0, _, _, _, _, _, _, _, _, _, _, _, _, _, _, _, _, _ => none
  | k + 1, x1, x2, x12, x13, x14, x20, x21, x22, x222000, x222001, x222002, x222003, x222004, x222005, x222006, x222007, x222008 => if x22 < x21 then (if 0 ≤ x22 then (if x22 < (x20.length : Int) then (if x222000 = x1 then ((conf_has.f ((rd_T62 x20 x22).f0) ((rd_T62 x20 x22).f1) x2).bind fun t224 => (if t224 = true then (some true) else (conf_InPool.l1 k x1 x2 x12 x13 x14 x20 x21 (wrap64 (x22 + 1)) x222000 x222001 x222002 x222003 x222004 x222005 x222006 x222007 x222008))) else (conf_InPool.l1 k x1 x2 x12 x13 x14 x20 x21 (wrap64 (x22 + 1)) x222000 x222001 x222002 x222003 x222004 x222005 x222006 x222007 x222008)) else (none)) else (none)) else (conf_InPool.l0 k x1 x2 x12 x13 (wrap64 (x14 + 1)))
end
def conf_InPool.f (k : Nat) (a0_0 : Int) (a0_1 : Int) (l0_2 : List (S41)) (a1 : Int) (a2 : Int) : Option (Bool) := (conf_right.f k a0_0 a0_1 l0_2).bind fun t217 => (conf_InPool.l0 k a1 a2 t217 (t217.length : Int) 0)
noncomputable def conf_InPool.cx : Cx := ⟨Try.prog, tys, glo, 37, Try.f22, [.tmp 6], 0⟩
set_option maxHeartbeats 16000000 in
set_option maxRecDepth 100000 in
theorem conf_InPool.ok {k : Nat} {a0_0 : Int} {a0_1 : Int} {l0_2 : List (S41)} {a1 : Int} {a2 : Int} {r0 : Bool} (H : conf_InPool.f k a0_0 a0_1 l0_2 a1 a2 = some r0) : CallOK Try.prog glo 22 [.agg [.imm (.int .i64 a0_0), .imm (.int .i64 a0_1), vS41 l0_2], .imm (.int .i64 a1), .imm (.int .i64 a2)] (.imm (.bool r0)) := by
  unfold conf_InPool.f at H
  refine CallOK.of (c := conf_InPool.cx) Try.func22 (show (conf_InPool.cx).fn.body = some _ from rfl) rfl rfl (Nat.le_of_ble_eq_true rfl) rfl ?_
  repeat' (first
    | ((with_reducible replace H := some_ite H); obtain ⟨_, H⟩ := H)
    | (with_reducible replace H := true_ite H)
    | (with_reducible replace H := false_ite H)
    | ((with_reducible have hb := bool_ite H); clear H; rcases hb with ⟨e_, H⟩ | ⟨e_, H⟩ <;> subst e_)
    | ((with_reducible apply ROps.pure); (case hop => rfl); (case hw => rfl); (case hdst => rfl); (case hd => rfl))
    | (with_reducible apply ROps.nil)
    | (with_reducible apply Runs.seq)
    | (with_reducible apply Runs.region tysOK)
    | (with_reducible apply Runs.block)
    | (with_reducible apply Runs.skip)
    | (with_reducible apply Runs.inBlock)
    | (with_reducible apply Runs.scope)
    | (with_reducible apply Runs.inScope)
    | (with_reducible apply Runs.label)
    | ((with_reducible apply Runs.condT); (case ho => rfl))
    | ((with_reducible apply Runs.condF); (case ho => rfl))
    | ((with_reducible apply Runs.exit); (case he => rfl))
    | ((with_reducible apply ROps.store); (case hop => rfl); (case hp => rfl); (case hR => rfl); (case hc => rfl); (case hl => first | (dsimp only [setR_one, setR, Nat.beq, cond]; done) | (dsimp only [setR_one, setR, Nat.beq, cond]; rfl) | rfl); (case hl' => first | (dsimp only [List.take, List.drop, List.append, List.nil_append, List.cons_append, List.map, List.length, Nat.add]; rfl) | rfl); (case hw => rfl); (all_goals try rfl))
    | ((with_reducible apply ROps.cmp); (case hop => exact cmpX); (case hw => rfl); (case hdst => rfl); (case hd => rfl); (all_goals (intro h; first | (replace H := ite_pos_ h H) | (replace H := ite_neg_ h H) | (replace H := dec_pos h H) | (replace H := dec_neg h H) | (replace H := dec_t h H) | (replace H := dec_f h H) | (replace H := beq_pos h H) | (replace H := beq_neg h H) | (replace H := beq_tt h H) | (replace H := beq_ff h H) | (replace H := ite_pos_ (Decidable.not_not.1 h) H) | (replace H := beq_pos (Decidable.not_not.1 h) H) | (replace H := beq_tt (Decidable.not_not.1 h) H) | ((try simp only [rd_T62, rd_T66, rdOf] at h); (try simp only [rd_T62, rd_T66, rdOf] at H); (rw [decide_eq_true h] at H)) | ((try simp only [rd_T62, rd_T66, rdOf] at h); (try simp only [rd_T62, rd_T66, rdOf] at H); (rw [decide_eq_false h] at H)) | ((try simp only [rd_T62, rd_T66, rdOf] at h); (try simp only [rd_T62, rd_T66, rdOf] at H); (rw [beq_t h] at H)) | ((try simp only [rd_T62, rd_T66, rdOf] at h); (try simp only [rd_T62, rd_T66, rdOf] at H); (rw [beq_f h] at H)) | ((try simp only [rd_T62, rd_T66, rdOf] at h); (try simp only [rd_T62, rd_T66, rdOf] at H); (rw [bne_t h] at H)) | ((try simp only [rd_T62, rd_T66, rdOf] at h); (try simp only [rd_T62, rd_T66, rdOf] at H); (rw [bne_f h] at H)) | ((try simp only [rd_T62, rd_T66, rdOf] at h); (try simp only [rd_T62, rd_T66, rdOf] at H); (rw [beq_t (Decidable.not_not.1 h)] at H)) | ((try simp only [rd_T62, rd_T66, rdOf] at h); (try simp only [rd_T62, rd_T66, rdOf] at H); (rw [bne_f (Decidable.not_not.1 h)] at H)) | ((try simp only [rd_T62, rd_T66, rdOf] at h); (try simp only [rd_T62, rd_T66, rdOf] at H); (rw [if_pos h] at H)) | ((try simp only [rd_T62, rd_T66, rdOf] at h); (try simp only [rd_T62, rd_T66, rdOf] at H); (rw [if_neg h] at H)) | contradiction | skip)))
    | ((with_reducible apply ROps.val); (case hop => exact valX); (case hw => rfl); (case hdst => rfl); (case hd => rfl))
    | ((first | ((with_reducible apply ROps.eqS); case hop => rfl) | ((with_reducible apply ROps.neS); case hop => rfl)); (case ht => rfl); (case hx => rfl); (case hy => rfl); (case hl => rfl); (case hr => rfl); (case hw => rfl); (case hdst => rfl); (case hd => rfl); (all_goals (intro h; first | (replace H := ite_posF H h) | (replace H := ite_negF H h) | (dsimp only [eqP, eqA] at h) | skip)))
    | ((with_reducible apply ROps.idx); (case hop => rfl); (case hx => rfl); (case hi => rfl); (case he => rfl); (case hw => rfl); (case hdst => rfl); (case hd => rfl); (case h0 => first | assumption | omega); (case h1 => first | assumption | omega))
    | ((with_reducible apply ROps.alloc); (case hop => rfl); (case hw => rfl); (all_goals try rfl))
    | ((with_reducible apply ROps.box); (case hop => rfl); (case hx => rfl); (case hrf => rfl); (case hw => rfl); (all_goals try rfl))
    | ((with_reducible apply ROps.off); (case hw => rfl); (case hdst => rfl); (case hd => rfl))
    | ((with_reducible have hB : (conf_right.f _ _ _ _).bind _ = some _ := H); clear hB; (replace H := bind_some' H); (obtain ⟨t_, H1, H⟩ := H); (try dsimp only at H); (with_reducible apply ROps.call); (case hop => rfl); (case hc => exact conf_right.ok H1); (case ha => exact argsX); (case hw => rfl); (case hdst => rfl); (case hd => rfl))
    | ((with_reducible have hB : (conf_has.f _ _ _).bind _ = some _ := H); clear hB; (replace H := bind_some' H); (obtain ⟨t_, H1, H⟩ := H); (try dsimp only at H); (with_reducible apply ROps.call); (case hop => rfl); (case hc => exact conf_has.ok H1); (case ha => exact argsX); (case hw => rfl); (case hdst => rfl); (case hd => rfl))
    | ((with_reducible apply Runs.loopK1 ((fun i0 i1 i2 i3 => fun kk (v0_14 : Int) => conf_InPool.l0 kk i0 i1 i2 i3 v0_14) _ _ _ _) [1, 2, 12, 13] [] (fun b v0_14 => [(14, .imm (.int .i64 v0_14))]) (fun v0_14 => []) _ _ [] H); (case h0 => intros; rfl); (any_goals (clear H; intro k0 hk0 ih0 v0_14 H; replace H : conf_InPool.l0 (k0 + 1) _ _ _ _ v0_14 = some _ := H; rw [conf_InPool.l0] at H)))
    | (with_reducible apply ih0 _ _ [] _ _ (by omega) H)
    | ((with_reducible apply Runs.loopK1 ((fun i0 i1 i2 i3 i4 i5 i6 i7 i8 i9 i10 i11 i12 i13 i14 i15 => fun kk (v1_22 : Int) => conf_InPool.l1 kk i0 i1 i2 i3 i4 i5 i6 v1_22 i7 i8 i9 i10 i11 i12 i13 i14 i15) _ _ _ _ _ _ _ _ _ _ _ _ _ _ _ _) [1, 2, 8, 12, 13, 14, 20, 21] [] (fun b v1_22 => [(22, .imm (.int .i64 v1_22))]) (fun v1_22 => []) _ _ [] H); (case h0 => intros; rfl); (any_goals (clear H; intro k1 hk1 ih1 v1_22 H; replace H : conf_InPool.l1 (k1 + 1) _ _ _ _ _ _ _ v1_22 _ _ _ _ _ _ _ _ _ = some _ := H; rw [conf_InPool.l1] at H)))
    | (with_reducible apply ih1 _ _ [] _ _ (by omega) H)
    | ((with_reducible apply Runs.retP tysOK); (case hrs => rfl); (case h => rfl); (case hr => (cases H; exact refX)); (case hx => rfl))
    | exact leRX)
end Go.Proofs.Ytdcabfonjmeajaa.POrder
set_option linter.unusedVariables false
set_option linter.unusedSimpArgs false
namespace Go.Proofs.Ytdcabfonjmeajaa.POrder
open Go.RowKit Go.Proofs.YtdcabfonjmeajaaW.PrintWords Go.Proofs.YtdcabfonjmeajaaW.PrintLast Go.Proofs.YtdcabfonjmeajaaW.PrintMore Go.Proofs.Ytdcabfonjmeajaa.Abs
/-! ### conf_Find: function 24 -/
def conf_Find.l0 : Nat → Int → List (S66) → Int → Int → Option (Int × Int × Bool)
  | 0, _, _, _, _ => none
  | k + 1, x1, x10, x11, x12 => if x12 < x11 then (if 0 ≤ x12 then (if x12 < (x10.length : Int) then ((addr_Has.f ((rd_T66 x10 x12).f2.f0) ((rd_T66 x10 x12).f2.f1) x1).bind fun t231 => (if t231 = true then (some ((rd_T66 x10 x12).f0, (rd_T66 x10 x12).f1, true)) else (conf_Find.l0 k x1 x10 x11 (wrap64 (x12 + 1))))) else (none)) else (none)) else (some (0, 0, false))
def conf_Find.f (k : Nat) (a0_0 : Int) (a0_1 : Int) (l0_2 : List (S41)) (a1 : Int) : Option (Int × Int × Bool) := (conf_right.f k a0_0 a0_1 l0_2).bind fun t226 => (conf_Find.l0 k a1 t226 (t226.length : Int) 0)
noncomputable def conf_Find.cx : Cx := ⟨Try.prog, tys, glo, 29, Try.f24, [.tmp 4, .tmp 5, .tmp 6], 0⟩
set_option maxHeartbeats 16000000 in
set_option maxRecDepth 100000 in
theorem conf_Find.ok {k : Nat} {a0_0 : Int} {a0_1 : Int} {l0_2 : List (S41)} {a1 : Int} {r0 : Int} {r1 : Int} {r2 : Bool} (H : conf_Find.f k a0_0 a0_1 l0_2 a1 = some (r0, r1, r2)) : CallOK Try.prog glo 24 [.agg [.imm (.int .i64 a0_0), .imm (.int .i64 a0_1), vS41 l0_2], .imm (.int .i64 a1)] (.tup [.imm (.int .i64 r0), .imm (.int .i64 r1), .imm (.bool r2)]) := by
  unfold conf_Find.f at H
  refine CallOK.of (c := conf_Find.cx) Try.func24 (show (conf_Find.cx).fn.body = some _ from rfl) rfl rfl (Nat.le_of_ble_eq_true rfl) rfl ?_
  repeat' (first
    | ((with_reducible replace H := some_ite H); obtain ⟨_, H⟩ := H)
    | (with_reducible replace H := true_ite H)
    | (with_reducible replace H := false_ite H)
    | ((with_reducible have hb := bool_ite H); clear H; rcases hb with ⟨e_, H⟩ | ⟨e_, H⟩ <;> subst e_)
    | ((first | with_reducible apply ROps.pure | ((with_reducible apply DOps.pure); case hg => rfl)); (case hop => rfl); (case hw => rfl); (case hdst => rfl); (case hd => rfl))
    | (first | with_reducible apply ROps.nil | with_reducible apply DOps.nil)
    | (with_reducible apply Runs.seq)
    | (with_reducible apply Runs.region tysOK)
    | ((with_reducible apply Runs.drawnE [] tysOK mixed); (case hB => kernel_rfl))
    | (with_reducible apply Runs.block)
    | (with_reducible apply Runs.skip)
    | (with_reducible apply Runs.inBlock)
    | (with_reducible apply Runs.scope)
    | (with_reducible apply Runs.inScope)
    | (with_reducible apply Runs.label)
    | ((with_reducible apply Runs.condT); (case ho => rfl))
    | ((with_reducible apply Runs.condF); (case ho => rfl))
    | ((with_reducible apply Runs.exit); (case he => rfl))
    | ((first | with_reducible apply ROps.store | ((with_reducible apply DOps.store); case hg => rfl)); (case hop => rfl); (case hp => rfl); (case hR => rfl); (case hc => rfl); (case hl => first | (dsimp only [setR_one, setR, Nat.beq, cond]; done) | (dsimp only [setR_one, setR, Nat.beq, cond]; rfl) | rfl); (case hl' => first | (dsimp only [List.take, List.drop, List.append, List.nil_append, List.cons_append, List.map, List.length, Nat.add]; rfl) | rfl); (case hw => rfl); (all_goals try rfl))
    | ((first | with_reducible apply ROps.cmp | with_reducible apply DOps.cmp); (case hop => exact cmpX); (case hw => rfl); (case hdst => rfl); (case hd => rfl); (all_goals (intro h; first | (replace H := ite_pos_ h H) | (replace H := ite_neg_ h H) | (replace H := dec_pos h H) | (replace H := dec_neg h H) | (replace H := dec_t h H) | (replace H := dec_f h H) | (replace H := ite_pos_ (Decidable.not_not.1 h) H) | ((try simp only [rd_T66, rdOf] at h); (try simp only [rd_T66, rdOf] at H); (rw [decide_eq_true h] at H)) | ((try simp only [rd_T66, rdOf] at h); (try simp only [rd_T66, rdOf] at H); (rw [decide_eq_false h] at H)) | ((try simp only [rd_T66, rdOf] at h); (try simp only [rd_T66, rdOf] at H); (rw [if_pos h] at H)) | ((try simp only [rd_T66, rdOf] at h); (try simp only [rd_T66, rdOf] at H); (rw [if_neg h] at H)) | contradiction | skip)))
    | ((first | with_reducible apply ROps.val | with_reducible apply DOps.val); (case hop => exact valX); (case hw => rfl); (case hdst => rfl); (case hd => rfl))
    | ((first | with_reducible apply ROps.idx | with_reducible apply DOps.idx); (case hop => rfl); (case hx => rfl); (case hi => rfl); (case he => rfl); (case hw => rfl); (case hdst => rfl); (case hd => rfl); (case h0 => first | assumption | omega); (case h1 => first | assumption | omega))
    | ((with_reducible apply ROps.alloc); (case hop => rfl); (case hw => rfl); (all_goals try rfl))
    | ((first | with_reducible apply ROps.box | with_reducible apply DOps.box); (case hop => rfl); (case hx => rfl); (case hrf => rfl); (case hw => rfl); (all_goals try rfl))
    | ((with_reducible have hB : (conf_right.f _ _ _ _).bind _ = some _ := H); clear hB; (replace H := bind_some' H); (obtain ⟨t_, H1, H⟩ := H); (try dsimp only at H); (first | with_reducible apply ROps.call | with_reducible apply DOps.call); (case hop => rfl); (case hc => exact conf_right.ok H1); (case ha => exact argsX); (case hw => rfl); (case hdst => rfl); (case hd => rfl))
    | ((with_reducible have hB : (addr_Has.f _ _ _).bind _ = some _ := H); clear hB; (replace H := bind_some' H); (obtain ⟨t_, H1, H⟩ := H); (try dsimp only at H); (first | with_reducible apply ROps.call | with_reducible apply DOps.call); (case hop => rfl); (case hc => exact addr_Has.ok H1); (case ha => exact argsX); (case hw => rfl); (case hdst => rfl); (case hd => rfl))
    | ((with_reducible apply Runs.loopK1 ((fun i0 i1 i2 => fun kk (v0_12 : Int) => conf_Find.l0 kk i0 i1 i2 v0_12) _ _ _) [1, 10, 11] [] (fun b v0_12 => [(12, .imm (.int .i64 v0_12))]) (fun v0_12 => []) _ _ [] H); (case h0 => intros; rfl); (any_goals (clear H; intro k0 hk0 ih0 v0_12 H; replace H : conf_Find.l0 (k0 + 1) _ _ _ v0_12 = some _ := H; rw [conf_Find.l0] at H)))
    | (with_reducible apply ih0 _ _ [] _ _ (by omega) H)
    | ((with_reducible apply Runs.retP tysOK); (case hrs => rfl); (case h => rfl); (case hr => (cases H; exact refX)); (case hx => rfl))
    | exact leRX)
end Go.Proofs.Ytdcabfonjmeajaa.POrder
set_option linter.unusedVariables false
set_option linter.unusedSimpArgs false
namespace Go.Proofs.Ytdcabfonjmeajaa.POrder
open Go.RowKit Go.Proofs.YtdcabfonjmeajaaW.PrintWords Go.Proofs.YtdcabfonjmeajaaW.PrintLast Go.Proofs.YtdcabfonjmeajaaW.PrintMore Go.Proofs.Ytdcabfonjmeajaa.Abs
/-! ### boarderlaw13_Plain: function 39 -/
def boarderlaw13_Plain.f  : Option (Int × Int × (List (S41))) := some (167772161, 300, (([(⟨(([(⟨167772160, 24, (([(⟨167772170, 167772180⟩ : S62)] : List (S62))), (([(⟨(⟨#[105, 48, 49]⟩ : ByteArray), 167772165⟩ : S59)] : List (S59))), 1, 167772161, 600⟩ : S57)] : List (S57)))⟩ : S41)] : List (S41))))
noncomputable def boarderlaw13_Plain.cx : Cx := ⟨Try.prog, tys, glo, 12, Try.f39, [.cell 0 24], 0⟩
set_option maxHeartbeats 16000000 in
set_option maxRecDepth 100000 in
theorem boarderlaw13_Plain.ok {r0 : Int} {r1 : Int} {r2 : (List (S41))} (H : boarderlaw13_Plain.f = some (r0, r1, r2)) : CallOK Try.prog glo 39 [] (.agg [.imm (.int .i64 r0), .imm (.int .i64 r1), vS41 r2]) := by
  unfold boarderlaw13_Plain.f at H
  refine CallOK.of (c := boarderlaw13_Plain.cx) Try.func39 (show (boarderlaw13_Plain.cx).fn.body = some _ from rfl) rfl rfl (Nat.le_of_ble_eq_true rfl) rfl ?_
  repeat' (first
    | ((with_reducible replace H := some_ite H); obtain ⟨_, H⟩ := H)
    | ((with_reducible apply ROps.pure); (case hop => rfl); (case hw => rfl); (case hdst => rfl); (case hd => rfl))
    | (with_reducible apply ROps.nil)
    | (with_reducible apply Runs.seq)
    | (with_reducible apply Runs.region tysOK)
    | (with_reducible apply Runs.scope)
    | (with_reducible apply Runs.inScope)
    | (with_reducible apply Runs.label)
    | ((with_reducible apply ROps.store); (case hop => rfl); (case hp => rfl); (case hR => rfl); (case hc => rfl); (case hl => first | (dsimp only [setR_one, setR, Nat.beq, cond]; done) | (dsimp only [setR_one, setR, Nat.beq, cond]; rfl) | rfl); (case hl' => first | (dsimp only [List.take, List.drop, List.append, List.nil_append, List.cons_append, List.map, List.length, Nat.add]; rfl) | rfl); (case hw => rfl); (all_goals try rfl))
    | ((with_reducible apply ROps.alloc); (case hop => rfl); (case hw => rfl); (all_goals try rfl))
    | ((with_reducible apply ROps.lit); (case hop => rfl); (case hti => rfl); (case hsz => rfl); (case hl => rfl); (case hrf => rfl); (case hw => rfl); (all_goals try rfl))
    | ((with_reducible apply Runs.retP tysOK); (case hrs => rfl); (case h => rfl); (case hr => (cases H; exact refX)); (case hx => rfl))
    | exact leRX)
end Go.Proofs.Ytdcabfonjmeajaa.POrder
set_option linter.unusedVariables false
set_option linter.unusedSimpArgs false
namespace Go.Proofs.Ytdcabfonjmeajaa.POrder
open Go.RowKit Go.Proofs.YtdcabfonjmeajaaW.PrintWords Go.Proofs.YtdcabfonjmeajaaW.PrintLast Go.Proofs.YtdcabfonjmeajaaW.PrintMore Go.Proofs.Ytdcabfonjmeajaa.Abs
/-! ### boarderlaw13_Plain_m1: function 39m1 -/
def boarderlaw13_Plain_m1.f : Option (List (S59)) := (some ([(⟨(⟨#[105, 48, 49]⟩ : ByteArray), 167772165⟩ : S59)] : List (S59)))
noncomputable def boarderlaw13_Plain_m1.cx : Cx := ⟨Try.prog, tys, glo, 12, Try.f39, [.cell 0 24], 0⟩
def boarderlaw13_Plain_m1.Sf (o1 : List (S59)) : Prop := boarderlaw13_Plain_m1.f = some o1 → Runs boarderlaw13_Plain_m1.cx (MutF (.agg [.imm (.int .i64 167772161), .imm (.int .i64 300), .msl 0]) [.mat 1 1 (fun _ => [.msl 1]), .mat 1 7 (fun _ => [.imm (.int .i64 167772160), .imm (.int .i64 24), .msl 2, vS59 o1, .imm (.int .i64 1), .imm (.int .i64 167772161), .imm (.int .i64 600)]), .mat 1 2 (fun _ => [.imm (.int .i64 167772170), .imm (.int .i64 167772180)])]) [.code (bodyOf Try.f39)] (frame0 []) []
set_option maxHeartbeats 64000000 in
set_option maxRecDepth 100000 in
theorem boarderlaw13_Plain_m1.seg (o1 : List (S59)) : boarderlaw13_Plain_m1.Sf o1 := by
  intro H
  unfold boarderlaw13_Plain_m1.f at H
  try dsimp only at H
  repeat' (first
    | ((with_reducible apply ROps.litM); (case hdst => exact (rfl : _ = some 3)); (case hop => rfl); (case hti => rfl); (case hsz => rfl); (case hl => rfl); (case hb => rfl); (case hrow => exact lit1X rfl); (case hR' => rfl); (case hw => rfl); (case hd => rfl))
    | ((with_reducible apply ROps.litM); (case hdst => exact (rfl : _ = some 8)); (case hop => rfl); (case hti => rfl); (case hsz => rfl); (case hl => rfl); (case hb => rfl); (case hrow => exact lit1X rfl); (case hR' => rfl); (case hw => rfl); (case hd => rfl))
    | ((with_reducible apply ROps.litM); (case hdst => exact (rfl : _ = some 10)); (case hop => rfl); (case hti => rfl); (case hsz => rfl); (case hl => rfl); (case hb => rfl); (case hrow => exact lit1X rfl); (case hR' => rfl); (case hw => rfl); (case hd => rfl))
    | ((with_reducible replace H := some_ite H); obtain ⟨_, H⟩ := H)
    | ((with_reducible apply ROps.pure); (case hop => rfl); (case hw => rfl); (case hdst => rfl); (case hd => rfl))
    | (with_reducible apply ROps.nil)
    | (with_reducible apply Runs.seq)
    | (with_reducible apply Runs.region tysOK)
    | (with_reducible apply Runs.scope)
    | (with_reducible apply Runs.inScope)
    | (with_reducible apply Runs.label)
    | ((with_reducible apply ROps.store); (case hop => rfl); (case hp => rfl); (case hR => rfl); (case hc => rfl); (case hl => first | (dsimp only [setR_one, setR, Nat.beq, cond]; done) | (dsimp only [setR_one, setR, Nat.beq, cond]; rfl) | rfl); (case hl' => first | (dsimp only [List.take, List.drop, List.append, List.nil_append, List.cons_append, List.map, List.length, Nat.add]; rfl) | rfl); (case hw => rfl); (all_goals try rfl))
    | ((with_reducible apply ROps.idxM); (case hop => rfl); (case hx => rfl); (case hR => rfl); (case hi => rfl); (case he => rfl); (case hw => rfl); (case hdst => rfl); (case hd => rfl); (case h0 => first | assumption | omega); (case h1 => first | assumption | omega))
    | ((with_reducible apply ROps.loadM); (case hop => rfl); (case hp => rfl); (case hR => rfl); (case hj => omega); (case hti => rfl); (case hl => rfl); (case hw => rfl); (case hdst => rfl); (case hd => rfl))
    | ((with_reducible apply ROps.alloc); (case hop => rfl); (case hw => rfl); (all_goals try rfl))
    | ((with_reducible apply ROps.lit); (case hop => rfl); (case hti => rfl); (case hsz => rfl); (case hl => rfl); (case hrf => rfl); (case hw => rfl); (all_goals try rfl))
    | ((with_reducible have hS : some _ = some _ := H); clear hS; cases H; (first | with_reducible apply Runs.retM [_, _, _] tysOK | with_reducible apply Runs.fallM [_, _, _] tysOK); (case hrs => rfl); (case h => rfl); (case hx => exact refXX); (case hR => exact leRX))
    | exact leRX
    | (refine Runs.code_eq (p' := .seq _ _) rfl ?_)
    | (refine Runs.code_eq (p' := .region _ _ _) rfl ?_)
    | (refine Runs.code_eq (p' := .cond _ _ _) rfl ?_)
    | (refine Runs.code_eq (p' := .block _ _) rfl ?_)
    | (refine Runs.code_eq (p' := .loop _) rfl ?_)
    | (refine Runs.code_eq (p' := .exit _) rfl ?_)
    | (refine Runs.code_eq (p' := .ret) rfl ?_)
    | (refine Runs.code_eq (p' := .skip) rfl ?_)
    | (refine Runs.code_eq (p' := .label _) rfl ?_)
    | (refine Runs.code_eq (p' := .scope _) rfl ?_))
theorem boarderlaw13_Plain_m1.okM {o1 : List (S59)} (H : boarderlaw13_Plain_m1.f = some o1) : CallM Try.prog glo 39 [] [] (.agg [.imm (.int .i64 167772161), .imm (.int .i64 300), .msl 0]) [.mat 1 1 (fun _ => [.msl 1]), .mat 1 7 (fun _ => [.imm (.int .i64 167772160), .imm (.int .i64 24), .msl 2, vS59 o1, .imm (.int .i64 1), .imm (.int .i64 167772161), .imm (.int .i64 600)]), .mat 1 2 (fun _ => [.imm (.int .i64 167772170), .imm (.int .i64 167772180)])] :=
  CallM.of (c := boarderlaw13_Plain_m1.cx) (p := bodyOf Try.f39) Try.func39 rfl rfl rfl (Nat.le_of_ble_eq_true rfl) rfl sameX bdX (boarderlaw13_Plain_m1.seg o1 H)
end Go.Proofs.Ytdcabfonjmeajaa.POrder
set_option linter.unusedVariables false
set_option linter.unusedSimpArgs false
namespace Go.Proofs.Ytdcabfonjmeajaa.POrder
open Go.RowKit Go.Proofs.YtdcabfonjmeajaaW.PrintWords Go.Proofs.YtdcabfonjmeajaaW.PrintLast Go.Proofs.YtdcabfonjmeajaaW.PrintMore Go.Proofs.Ytdcabfonjmeajaa.Abs
/-! ### boarderlaw13_Plain_m2: function 39m2 -/
def boarderlaw13_Plain_m2.f : Option (List (S57)) := (some ([(⟨167772160, 24, ([(⟨167772170, 167772180⟩ : S62)] : List (S62)), ([(⟨(⟨#[105, 48, 49]⟩ : ByteArray), 167772165⟩ : S59)] : List (S59)), 1, 167772161, 600⟩ : S57)] : List (S57)))
noncomputable def boarderlaw13_Plain_m2.cx : Cx := ⟨Try.prog, tys, glo, 12, Try.f39, [.cell 0 24], 0⟩
def boarderlaw13_Plain_m2.Sf (o1 : List (S57)) : Prop := boarderlaw13_Plain_m2.f = some o1 → Runs boarderlaw13_Plain_m2.cx (MutF (.agg [.imm (.int .i64 167772161), .imm (.int .i64 300), .msl 0]) [.mat 1 1 (fun _ => [.own 1 (o1).length 7 (rowsE eS57 z57 o1)]), .arr 57 7 (o1).length]) [.code (bodyOf Try.f39)] (frame0 []) []
set_option maxHeartbeats 64000000 in
set_option maxRecDepth 100000 in
theorem boarderlaw13_Plain_m2.seg (o1 : List (S57)) : boarderlaw13_Plain_m2.Sf o1 := by
  intro H
  unfold boarderlaw13_Plain_m2.f at H
  try dsimp only at H
  repeat' (first
    | ((with_reducible apply ROps.litM); (case hdst => exact (rfl : _ = some 10)); (case hop => rfl); (case hti => rfl); (case hsz => rfl); (case hl => rfl); (case hb => rfl); (case hrow => exact lit1X rfl); (case hR' => rfl); (case hw => rfl); (case hd => rfl))
    | ((with_reducible apply ROps.litO); (case hdst => exact (rfl : _ = some 8)); (case hop => rfl); (case hti => rfl); (case hsz => rfl); (case hl => rfl); (case hrf => rfl); (case hw => rfl); (all_goals try rfl))
    | ((with_reducible replace H := some_ite H); obtain ⟨_, H⟩ := H)
    | ((with_reducible apply ROps.pure); (case hop => rfl); (case hw => rfl); (case hdst => rfl); (case hd => rfl))
    | (with_reducible apply ROps.nil)
    | (with_reducible apply Runs.seq)
    | (with_reducible apply Runs.region tysOK)
    | (with_reducible apply Runs.scope)
    | (with_reducible apply Runs.inScope)
    | (with_reducible apply Runs.label)
    | ((with_reducible apply ROps.store); (case hop => rfl); (case hp => rfl); (case hR => rfl); (case hc => rfl); (case hl => first | (dsimp only [setR_one, setR, Nat.beq, cond]; done) | (dsimp only [setR_one, setR, Nat.beq, cond]; rfl) | rfl); (case hl' => first | (dsimp only [List.take, List.drop, List.append, List.nil_append, List.cons_append, List.map, List.length, Nat.add]; rfl) | rfl); (case hw => rfl); (all_goals try rfl))
    | ((with_reducible apply ROps.idxM); (case hop => rfl); (case hx => rfl); (case hR => rfl); (case hi => rfl); (case he => rfl); (case hw => rfl); (case hdst => rfl); (case hd => rfl); (case h0 => first | assumption | omega); (case h1 => first | assumption | omega))
    | ((with_reducible apply ROps.loadM); (case hop => rfl); (case hp => rfl); (case hR => rfl); (case hj => omega); (case hti => rfl); (case hl => rfl); (case hw => rfl); (case hdst => rfl); (case hd => rfl))
    | ((with_reducible apply ROps.alloc); (case hop => rfl); (case hw => rfl); (all_goals try rfl))
    | ((with_reducible apply ROps.lit); (case hop => rfl); (case hti => rfl); (case hsz => rfl); (case hl => rfl); (case hrf => rfl); (case hw => rfl); (all_goals try rfl))
    | ((with_reducible have hS : some _ = some _ := H); clear hS; cases H; (first | with_reducible apply Runs.retM [_, _] tysOK | with_reducible apply Runs.fallM [_, _] tysOK); (case hrs => rfl); (case h => rfl); (case hx => exact refXX); (case hR => exact leRX))
    | exact leRX
    | (refine Runs.code_eq (p' := .seq _ _) rfl ?_)
    | (refine Runs.code_eq (p' := .region _ _ _) rfl ?_)
    | (refine Runs.code_eq (p' := .cond _ _ _) rfl ?_)
    | (refine Runs.code_eq (p' := .block _ _) rfl ?_)
    | (refine Runs.code_eq (p' := .loop _) rfl ?_)
    | (refine Runs.code_eq (p' := .exit _) rfl ?_)
    | (refine Runs.code_eq (p' := .ret) rfl ?_)
    | (refine Runs.code_eq (p' := .skip) rfl ?_)
    | (refine Runs.code_eq (p' := .label _) rfl ?_)
    | (refine Runs.code_eq (p' := .scope _) rfl ?_))
theorem boarderlaw13_Plain_m2.okM {o1 : List (S57)} (H : boarderlaw13_Plain_m2.f = some o1) : CallM Try.prog glo 39 [] [] (.agg [.imm (.int .i64 167772161), .imm (.int .i64 300), .msl 0]) [.mat 1 1 (fun _ => [.own 1 (o1).length 7 (rowsE eS57 z57 o1)]), .arr 57 7 (o1).length] :=
  CallM.of (c := boarderlaw13_Plain_m2.cx) (p := bodyOf Try.f39) Try.func39 rfl rfl rfl (Nat.le_of_ble_eq_true rfl) rfl sameX bdX (boarderlaw13_Plain_m2.seg o1 H)
end Go.Proofs.Ytdcabfonjmeajaa.POrder
set_option linter.unusedVariables false
set_option linter.unusedSimpArgs false
namespace Go.Proofs.Ytdcabfonjmeajaa.POrder
open Go.RowKit Go.Proofs.YtdcabfonjmeajaaW.PrintWords Go.Proofs.YtdcabfonjmeajaaW.PrintLast Go.Proofs.YtdcabfonjmeajaaW.PrintMore Go.Proofs.Ytdcabfonjmeajaa.Abs
/-! ### boarderlaw13_knows: function 15 -/
mutual
def boarderlaw13_knows.j0 : Nat → Int × Int × List (S41) → List (S59) → List (S57) → Option (Bool)
  | 0, _, _, _ => none
  | k + 1, b1, t2, t3 => ((conf_Find.f k b1.1 b1.2.1 b1.2.2 167772259).bind fun b4 => ((conf_Keeper.f k b1.1 b1.2.1 b1.2.2 167772165).bind fun b5 => ((conf_KeptFor.f k b1.1 b1.2.1 b1.2.2 0 (⟨#[105, 48, 49]⟩ : ByteArray)).bind fun b6 => (boarderlaw13_knows.j1 k b1 t2 t3 b4 b5 b6))))
def boarderlaw13_knows.j1 : Nat → Int × Int × List (S41) → List (S59) → List (S57) → Int × Int × Bool → ByteArray × Bool → Int × Bool → Option (Bool)
  | 0, _, _, _, _, _, _ => none
  | k + 1, b1, t2, t3, b4, b5, b6 => ((conf_Check.f k b1.1 b1.2.1 b1.2.2).bind fun t7 => (if t7 = 0 then ((conf_Check.f k 167772161 300 ([(⟨([(⟨167772160, 24, ([(⟨167772161, 167772180⟩ : S62)] : List (S62)), t2, 1, 167772161, 600⟩ : S57)] : List (S57))⟩ : S41)] : List (S41))).bind fun t8 => (if t8 = 9 then ((conf_Check.f k 167772161 300 ([(⟨(t3 ++ ([(⟨167772288, 25, ([] : List (S62)), ([] : List (S59)), 0, 0, 1⟩ : S57)] : List (S57)))⟩ : S41)] : List (S41))).bind fun t9 => (if t9 = 8 then (if b4.1 = 0 then (if b4.2.1 = 0 then (if b4.2.2 = true then (if b5.1.toList = (⟨#[105, 48, 49]⟩ : ByteArray).toList then (if b5.2 = true then (if b6.1 = 167772165 then (if b6.2 = true then ((conf_InPool.f k b1.1 b1.2.1 b1.2.2 0 167772180).bind fun t10 => (if t10 = true then ((conf_InPool.f k b1.1 b1.2.1 b1.2.2 0 167772181).bind fun t11 => (some (!t11))) else (some false))) else (some false)) else (some false)) else (some false)) else (some false)) else (some false)) else (some false)) else (some false)) else (some false))) else (some false))) else (some false)))
end
def boarderlaw13_knows.f (k : Nat) : Option (Bool) := ((boarderlaw13_Plain.f).bind fun b1 => ((boarderlaw13_Plain_m1.f).bind fun t2 => ((boarderlaw13_Plain_m2.f).bind fun t3 => (if t3.length + 1 ≤ 1599289640401 then (boarderlaw13_knows.j0 k b1 t2 t3) else none))))
noncomputable def boarderlaw13_knows.cx : Cx := ⟨Try.prog, tys, glo, 99, Try.f15, [.tmp 0], 0⟩
def boarderlaw13_knows.Sj0 (r0 : Bool) (k : Nat) : Prop := ∀ (b1 : Int × Int × List (S41)) (t2 : List (S59)) (t3 : List (S57)), boarderlaw13_knows.j0 k b1 t2 t3 = some r0 → Runs boarderlaw13_knows.cx (Pur (.imm (.bool r0))) [.code (cP (bodyOf Try.f15) [1, 1, 1, 1])] (overF none_ [(1, .loc 0 0 0), (2, .loc 1 0 0), (3, .loc 5 0 0)]) [.mat 1 3 (fun _ => [.imm (.int .i64 b1.1), .imm (.int .i64 b1.2.1), vS41 (b1.2.2)]), .mat 1 3 (fun _ => [.imm (.int .i64 167772161), .imm (.int .i64 300), .msl 2]), .mat 1 1 (fun _ => [.msl 3]), .mat 1 7 (fun _ => [.imm (.int .i64 167772160), .imm (.int .i64 24), .msl 4, vS59 t2, .imm (.int .i64 1), .imm (.int .i64 167772161), .imm (.int .i64 600)]), .mat 1 2 (fun _ => [.imm (.int .i64 167772161), .imm (.int .i64 167772180)]), .mat 1 3 (fun _ => [.imm (.int .i64 167772161), .imm (.int .i64 300), .msl 6]), .mat 1 1 (fun _ => [.own 7 ((t3 ++ ([(⟨167772288, 25, ([] : List (S62)), ([] : List (S59)), 0, 0, 1⟩ : S57)] : List (S57)))).length 7 (rowsE eS57 z57 (t3 ++ ([(⟨167772288, 25, ([] : List (S62)), ([] : List (S59)), 0, 0, 1⟩ : S57)] : List (S57))))]), .arr 57 7 ((t3 ++ ([(⟨167772288, 25, ([] : List (S62)), ([] : List (S59)), 0, 0, 1⟩ : S57)] : List (S57)))).length]
def boarderlaw13_knows.Sj1 (r0 : Bool) (k : Nat) : Prop := ∀ (b1 : Int × Int × List (S41)) (t2 : List (S59)) (t3 : List (S57)) (b4 : Int × Int × Bool) (b5 : ByteArray × Bool) (b6 : Int × Bool), boarderlaw13_knows.j1 k b1 t2 t3 b4 b5 b6 = some r0 → Runs boarderlaw13_knows.cx (Pur (.imm (.bool r0))) [.code (cP (bodyOf Try.f15) [1, 1, 1, 1, 1, 1, 1])] (overF none_ [(1, .loc 0 0 0), (10, .imm (.bool b6.2)), (2, .loc 1 0 0), (3, .loc 5 0 0), (4, .imm (.int .i64 b4.1)), (5, .imm (.int .i64 b4.2.1)), (6, .imm (.bool b4.2.2)), (7, .imm (.string b5.1)), (8, .imm (.bool b5.2)), (9, .imm (.int .i64 b6.1))]) [.mat 1 3 (fun _ => [.imm (.int .i64 b1.1), .imm (.int .i64 b1.2.1), vS41 (b1.2.2)]), .mat 1 3 (fun _ => [.imm (.int .i64 167772161), .imm (.int .i64 300), .msl 2]), .mat 1 1 (fun _ => [.msl 3]), .mat 1 7 (fun _ => [.imm (.int .i64 167772160), .imm (.int .i64 24), .msl 4, vS59 t2, .imm (.int .i64 1), .imm (.int .i64 167772161), .imm (.int .i64 600)]), .mat 1 2 (fun _ => [.imm (.int .i64 167772161), .imm (.int .i64 167772180)]), .mat 1 3 (fun _ => [.imm (.int .i64 167772161), .imm (.int .i64 300), .msl 6]), .mat 1 1 (fun _ => [.own 7 ((t3 ++ ([(⟨167772288, 25, ([] : List (S62)), ([] : List (S59)), 0, 0, 1⟩ : S57)] : List (S57)))).length 7 (rowsE eS57 z57 (t3 ++ ([(⟨167772288, 25, ([] : List (S62)), ([] : List (S59)), 0, 0, 1⟩ : S57)] : List (S57))))]), .arr 57 7 ((t3 ++ ([(⟨167772288, 25, ([] : List (S62)), ([] : List (S59)), 0, 0, 1⟩ : S57)] : List (S57)))).length]
def boarderlaw13_knows.Sf (r0 : Bool) (k : Nat) : Prop := boarderlaw13_knows.f k = some r0 → Runs boarderlaw13_knows.cx (Pur (.imm (.bool r0))) [.code (bodyOf Try.f15)] (frame0 []) []
set_option maxHeartbeats 64000000 in
set_option maxRecDepth 100000 in
theorem boarderlaw13_knows.seg (r0 : Bool) : (∀ k, boarderlaw13_knows.Sj0 r0 k ∧ boarderlaw13_knows.Sj1 r0 k) ∧ ∀ k, (boarderlaw13_knows.Sj0 r0 k ∧ boarderlaw13_knows.Sj1 r0 k) → boarderlaw13_knows.Sf r0 k := by
  have hs : ∀ k, (boarderlaw13_knows.Sj0 r0 k ∧ boarderlaw13_knows.Sj1 r0 k) → (boarderlaw13_knows.Sj0 r0 (k + 1) ∧ boarderlaw13_knows.Sj1 r0 (k + 1)) ∧ boarderlaw13_knows.Sf r0 k := by
    intro k h
    obtain ⟨h_j0, h_j1⟩ := h
    refine ⟨⟨?_, ?_⟩, ?_⟩
    (intro b1 t2 t3 H; obtain ⟨b1_0, b1_1, b1_2⟩ := b1; rw [boarderlaw13_knows.j0] at H; try dsimp only at H)
    rotate_left
    (intro b1 t2 t3 b4 b5 b6 H; obtain ⟨b1_0, b1_1, b1_2⟩ := b1; obtain ⟨b4_0, b4_1, b4_2⟩ := b4; obtain ⟨b5_0, b5_1⟩ := b5; obtain ⟨b6_0, b6_1⟩ := b6; rw [boarderlaw13_knows.j1] at H; try dsimp only at H)
    rotate_left
    (intro H; unfold boarderlaw13_knows.f at H; try dsimp only at H)
    rotate_left
    repeat' (first
      | ((with_reducible have hJ : boarderlaw13_knows.j0 _ _ _ _ = some _ := H); clear hJ; (apply Runs.le [_, _, _, _, _, _, _, _] (h_j0 _ _ _ H)))
      | ((with_reducible have hJ : boarderlaw13_knows.j1 _ _ _ _ _ _ _ = some _ := H); clear hJ; (apply Runs.le [_, _, _, _, _, _, _, _] (h_j1 _ _ _ _ _ _ H)))
      | ((with_reducible apply Runs.frzL 7 4 eS62 z62 [(⟨167772161, 167772180⟩ : S62)]); (case hR => rfl); (case hrow => exact row1X refLX); (case hn => first | rfl | simp); (case hrf => exact fun _ => rfl); (case hR' => rfl))
      | ((with_reducible apply Runs.frzL 7 3 eS57 z57 [(⟨167772160, 24, ([(⟨167772161, 167772180⟩ : S62)] : List (S62)), t2, 1, 167772161, 600⟩ : S57)]); (case hR => rfl); (case hrow => exact row1X refLX); (case hn => first | rfl | simp); (case hrf => exact fun _ => rfl); (case hR' => rfl))
      | ((with_reducible apply Runs.frzL 7 2 eS41 z41 [(⟨([(⟨167772160, 24, ([(⟨167772161, 167772180⟩ : S62)] : List (S62)), t2, 1, 167772161, 600⟩ : S57)] : List (S57))⟩ : S41)]); (case hR => rfl); (case hrow => exact row1X refLX); (case hn => first | rfl | simp); (case hrf => exact fun _ => rfl); (case hR' => rfl))
      | ((with_reducible apply Runs.frzL 7 6 eS41 z41 [(⟨(t3 ++ ([(⟨167772288, 25, ([] : List (S62)), ([] : List (S59)), 0, 0, 1⟩ : S57)] : List (S57)))⟩ : S41)]); (case hR => rfl); (case hrow => exact row1X refLX); (case hn => first | rfl | simp); (case hrf => exact fun _ => rfl); (case hR' => rfl))
      | ((with_reducible apply Runs.drawnL (id := 3) [33] [(24, 7), (26, 7), (29, 3), (35, 3)] tysOK mixed); (case hB => kernel_rfl))
      | ((with_reducible replace H := some_ite H); obtain ⟨_, H⟩ := H)
      | (with_reducible replace H := true_ite H)
      | (with_reducible replace H := false_ite H)
      | ((with_reducible have hb := bool_ite H); clear H; rcases hb with ⟨e_, H⟩ | ⟨e_, H⟩ <;> subst e_)
      | ((with_reducible have hb := bool_iteN H); clear H; rcases hb with ⟨e_, H⟩ | ⟨e_, H⟩ <;> subst e_)
      | ((with_reducible apply ROps.build); (case hb => rfl); (case hop => rfl); (case hl => first | (dsimp only [List.take, List.drop, List.nil_append, List.cons_append, List.map, List.length, Nat.reduceAdd]; rfl) | rfl); (case hw => rfl); (case hdst => rfl); (case hd => rfl))
      | ((first | with_reducible apply ROps.pure | ((with_reducible apply DOps.pure); case hg => rfl)); (case hop => rfl); (case hw => rfl); (case hdst => rfl); (case hd => rfl))
      | (first | with_reducible apply ROps.nil | with_reducible apply DOps.nil)
      | (with_reducible apply Runs.seq)
      | (with_reducible apply Runs.region tysOK)
      | ((with_reducible apply Runs.drawnE [33] tysOK mixed); (case hB => kernel_rfl))
      | (with_reducible apply Runs.scope)
      | (with_reducible apply Runs.inScope)
      | (with_reducible apply Runs.label)
      | ((first | with_reducible apply ROps.store | ((with_reducible apply DOps.store); case hg => rfl)); (case hop => rfl); (case hp => rfl); (case hR => rfl); (case hc => rfl); (case hl => first | (dsimp only [setR_one, setR, Nat.beq, cond]; done) | (dsimp only [setR_one, setR, Nat.beq, cond]; rfl) | rfl); (case hl' => first | (dsimp only [List.take, List.drop, List.append, List.nil_append, List.cons_append, List.map, List.length, Nat.add]; rfl) | rfl); (case hw => rfl); (all_goals try rfl))
      | ((first | with_reducible apply ROps.cmp | with_reducible apply DOps.cmp); (case hop => exact cmpX); (case hw => rfl); (case hdst => rfl); (case hd => rfl); (all_goals (intro h; first | (replace H := ite_pos_ h H) | (replace H := ite_neg_ h H) | (replace H := ite_pos_ (Decidable.not_not.1 h) H) | ((try simp only [rdOf] at h); (try simp only [rdOf] at H); (rw [if_pos h] at H)) | ((try simp only [rdOf] at h); (try simp only [rdOf] at H); (rw [if_neg h] at H)) | contradiction | skip)))
      | ((first | with_reducible apply ROps.val | with_reducible apply DOps.val); (case hop => exact valX); (case hw => rfl); (case hdst => rfl); (case hd => rfl))
      | ((first | ((with_reducible apply ROps.eqS); case hop => rfl) | ((with_reducible apply DOps.eqS); case hop => rfl) | ((with_reducible apply ROps.neS); case hop => rfl) | ((with_reducible apply DOps.neS); case hop => rfl)); (case ht => rfl); (case hx => rfl); (case hy => rfl); (case hl => rfl); (case hr => rfl); (case hw => rfl); (case hdst => rfl); (case hd => rfl); (all_goals (intro h; first | (replace H := ite_posF H h) | (replace H := ite_negF H h) | (dsimp only [eqP, eqA] at h) | skip)))
      | ((first | with_reducible apply ROps.idx | with_reducible apply DOps.idx); (case hop => rfl); (case hx => rfl); (case hi => rfl); (case he => rfl); (case hw => rfl); (case hdst => rfl); (case hd => rfl); (case h0 => first | assumption | omega); (case h1 => first | assumption | omega))
      | ((first | with_reducible apply ROps.idxM | with_reducible apply DOps.idxM); (case hop => rfl); (case hx => rfl); (case hR => rfl); (case hi => rfl); (case he => rfl); (case hw => rfl); (case hdst => rfl); (case hd => rfl); (case h0 => first | assumption | omega); (case h1 => first | assumption | omega))
      | ((first | with_reducible apply ROps.loadM | ((with_reducible apply DOps.loadM); case hg => rfl)); (case hop => rfl); (case hp => rfl); (case hR => rfl); (case hj => omega); (case hti => rfl); (case hl => rfl); (case hw => rfl); (case hdst => rfl); (case hd => rfl))
      | ((with_reducible apply ROps.alloc); (case hop => rfl); (case hw => rfl); (all_goals try rfl))
      | ((first | with_reducible apply ROps.lit | with_reducible apply DOps.lit); (case hop => rfl); (case hti => rfl); (case hsz => rfl); (case hl => rfl); (case hrf => rfl); (case hw => rfl); (all_goals try rfl))
      | ((first | with_reducible apply ROps.app | with_reducible apply DOps.app); (case hop => rfl); (case hti => rfl); (case hsz => rfl); (case hs => rfl); (case hR => rfl); (case hx => rfl); (case hb => constructor <;> ((try simp only [maxLen, List.length_nil, List.length_cons, List.length_append] at *); omega)); (case hw => rfl); (all_goals try rfl))
      | ((first | with_reducible apply ROps.appN | with_reducible apply DOps.appN); (case hop => rfl); (case hti => rfl); (case hsz => rfl); (case hs => rfl); (case hx => rfl); (case hb => constructor <;> ((try simp only [maxLen, List.length_nil, List.length_cons, List.length_append] at *); omega)); (case hw => rfl); (all_goals try rfl))
      | ((first | with_reducible apply ROps.off | with_reducible apply DOps.off); (case hw => rfl); (case hdst => rfl); (case hd => rfl))
      | ((with_reducible have hB : (boarderlaw13_Plain.f).bind _ = some _ := H); clear hB; (replace H := bind_some' H); (obtain ⟨⟨t_0, t_1, t_2⟩, H1, H⟩ := H); (try dsimp only at H); (first | with_reducible apply ROps.call | with_reducible apply DOps.call); (case hop => rfl); (case hc => exact boarderlaw13_Plain.ok H1); (case ha => exact argsX); (case hw => rfl); (case hdst => rfl); (case hd => rfl))
      | ((with_reducible have hB : (conf_Check.f _ _ _ _).bind _ = some _ := H); clear hB; (replace H := bind_some' H); (obtain ⟨t_, H1, H⟩ := H); (try dsimp only at H); (first | with_reducible apply ROps.call | with_reducible apply DOps.call); (case hop => rfl); (case hc => exact conf_Check.ok H1); (case ha => exact argsX); (case hw => rfl); (case hdst => rfl); (case hd => rfl))
      | ((with_reducible have hB : (conf_Find.f _ _ _ _ _).bind _ = some _ := H); clear hB; (replace H := bind_some' H); (obtain ⟨⟨t_0, t_1, t_2⟩, H1, H⟩ := H); (try dsimp only at H); (first | with_reducible apply ROps.call | with_reducible apply DOps.call); (case hop => rfl); (case hc => exact conf_Find.ok H1); (case ha => exact argsX); (case hw => rfl); (case hdst => rfl); (case hd => rfl))
      | ((with_reducible have hB : (conf_InPool.f _ _ _ _ _ _).bind _ = some _ := H); clear hB; (replace H := bind_some' H); (obtain ⟨t_, H1, H⟩ := H); (try dsimp only at H); (first | with_reducible apply ROps.call | with_reducible apply DOps.call); (case hop => rfl); (case hc => exact conf_InPool.ok H1); (case ha => exact argsX); (case hw => rfl); (case hdst => rfl); (case hd => rfl))
      | ((with_reducible have hB : (conf_Keeper.f _ _ _ _ _).bind _ = some _ := H); clear hB; (replace H := bind_some' H); (obtain ⟨⟨t_0, t_1⟩, H1, H⟩ := H); (try dsimp only at H); (first | with_reducible apply ROps.call | with_reducible apply DOps.call); (case hop => rfl); (case hc => exact conf_Keeper.ok H1); (case ha => exact argsX); (case hw => rfl); (case hdst => rfl); (case hd => rfl))
      | ((with_reducible have hB : (conf_KeptFor.f _ _ _ _ _ _).bind _ = some _ := H); clear hB; (replace H := bind_some' H); (obtain ⟨⟨t_0, t_1⟩, H1, H⟩ := H); (try dsimp only at H); (first | with_reducible apply ROps.call | with_reducible apply DOps.call); (case hop => rfl); (case hc => exact conf_KeptFor.ok H1); (case ha => exact argsX); (case hw => rfl); (case hdst => rfl); (case hd => rfl))
      | ((with_reducible have hB : (boarderlaw13_Plain_m1.f).bind _ = some _ := H); clear hB; (replace H := bind_some' H); (obtain ⟨t_, H1, H⟩ := H); (try dsimp only at H); (with_reducible apply ROps.callM []); (case hop => rfl); (case hc => exact boarderlaw13_Plain_m1.okM H1); (case hh => exact handsX); (case hn => rfl); (case ha => exact argsMX); (case hRn => rfl); (case hx => rfl); (case hw => rfl); (case hdst => rfl); (case hd => rfl))
      | ((with_reducible have hB : (boarderlaw13_Plain_m2.f).bind _ = some _ := H); clear hB; (replace H := bind_some' H); (obtain ⟨t_, H1, H⟩ := H); (try dsimp only at H); (with_reducible apply ROps.callM []); (case hop => rfl); (case hc => exact boarderlaw13_Plain_m2.okM H1); (case hh => exact handsX); (case hn => rfl); (case ha => exact argsMX); (case hRn => rfl); (case hx => rfl); (case hw => rfl); (case hdst => rfl); (case hd => rfl))
      | ((with_reducible apply Runs.retP tysOK); (case hrs => rfl); (case h => rfl); (case hr => (cases H; exact refX)); (case hx => rfl))
      | exact leRX
      | (refine Runs.code_eq (p' := .seq _ _) rfl ?_)
      | (refine Runs.code_eq (p' := .region _ _ _) rfl ?_)
      | (refine Runs.code_eq (p' := .cond _ _ _) rfl ?_)
      | (refine Runs.code_eq (p' := .block _ _) rfl ?_)
      | (refine Runs.code_eq (p' := .loop _) rfl ?_)
      | (refine Runs.code_eq (p' := .exit _) rfl ?_)
      | (refine Runs.code_eq (p' := .ret) rfl ?_)
      | (refine Runs.code_eq (p' := .skip) rfl ?_)
      | (refine Runs.code_eq (p' := .label _) rfl ?_)
      | (refine Runs.code_eq (p' := .scope _) rfl ?_))
  refine ⟨fun k => ?_, fun k h => (hs k h).2⟩
  induction k with
  | zero => exact ⟨(by intro _ _ _ H; rw [boarderlaw13_knows.j0] at H; cases H), (by intro _ _ _ _ _ _ H; rw [boarderlaw13_knows.j1] at H; cases H)⟩
  | succ k ih => exact (hs k ih).1
theorem boarderlaw13_knows.ok {k : Nat} {r0 : Bool} (H : boarderlaw13_knows.f k = some r0) : CallOK Try.prog glo 15 [] (.imm (.bool r0)) :=
  CallOK.of (c := boarderlaw13_knows.cx) (p := bodyOf Try.f15) Try.func15 rfl rfl rfl (Nat.le_of_ble_eq_true rfl) rfl ((boarderlaw13_knows.seg r0).2 k ((boarderlaw13_knows.seg r0).1 k) H)
end Go.Proofs.Ytdcabfonjmeajaa.POrder
set_option linter.unusedVariables false
set_option linter.unusedSimpArgs false
namespace Go.Proofs.Ytdcabfonjmeajaa.POrder
open Go.RowKit Go.Proofs.YtdcabfonjmeajaaW.PrintWords Go.Proofs.YtdcabfonjmeajaaW.PrintLast Go.Proofs.YtdcabfonjmeajaaW.PrintMore Go.Proofs.Ytdcabfonjmeajaa.Abs
/-! ### boarderlaw13_ConfOrder: function 6 -/
def boarderlaw13_ConfOrder.f (k : Nat) (p0_0 : Int) (p0_1 : Int) (p0_2 : List (S41)) (p1 : Int) (p2 : Int) : Option (Bool) := ((boarderlaw13_Great.f k p0_0 p0_1 p0_2).bind fun t1 => (if t1 = true then ((boarderlaw13_knows.f k).bind fun t2 => (some t2)) else (if p1 < 0 then ((boarderlaw13_knows.f k).bind fun t9 => (some t9)) else (if p2 < 0 then ((boarderlaw13_knows.f k).bind fun t8 => (some t8)) else (if p1 ≥ (p0_2.length : Int) then ((boarderlaw13_knows.f k).bind fun t7 => (some t7)) else (if p2 ≥ (p0_2.length : Int) then ((boarderlaw13_knows.f k).bind fun t6 => (some t6)) else (if p0_2.length ≤ 5864062014805 then (if 0 < p0_2.length then (if 0 ≤ p2 then (if p2 < (p0_2.length : Int) then (if 0 ≤ p1 then (if p1 < (p0_2.length : Int) then (if p2 < ((p0_2.set (p1).toNat (⟨(rd_T41 p0_2 p2).f0⟩ : S41)).length : Int) then ((conf_Check.f k p0_0 p0_1 p0_2).bind fun t3 => ((conf_Check.f k p0_0 p0_1 ((p0_2.set (p1).toNat (⟨(rd_T41 p0_2 p2).f0⟩ : S41)).set (p2).toNat (⟨(rd_T41 p0_2 p1).f0⟩ : S41))).bind fun t4 => (if t3 = t4 then ((boarderlaw13_knows.f k).bind fun t5 => (some t5)) else (some false)))) else none) else none) else none) else none) else none) else none) else none)))))))
noncomputable def boarderlaw13_ConfOrder.cx : Cx := ⟨Try.prog, tys, glo, 65, Try.f6, [.tmp 6], 0⟩
def boarderlaw13_ConfOrder.Sf (r0 : Bool) (k : Nat) : Prop := ∀ (p0_0 : Int) (p0_1 : Int) (p0_2 : List (S41)) (p1 : Int) (p2 : Int), boarderlaw13_ConfOrder.f k p0_0 p0_1 p0_2 p1 p2 = some r0 → Runs boarderlaw13_ConfOrder.cx (Pur (.imm (.bool r0))) [.code (bodyOf Try.f6)] (frame0 [.agg [.imm (.int .i64 p0_0), .imm (.int .i64 p0_1), vS41 p0_2], .imm (.int .i64 p1), .imm (.int .i64 p2)]) []
set_option maxHeartbeats 64000000 in
set_option maxRecDepth 100000 in
theorem boarderlaw13_ConfOrder.seg (r0 : Bool) (k : Nat) : boarderlaw13_ConfOrder.Sf r0 k := by
  intro p0_0 p0_1 p0_2 p1 p2 H
  unfold boarderlaw13_ConfOrder.f at H
  try dsimp only at H
  repeat' (first
    | ((with_reducible apply Runs.frzL 6 2 eS41 z41 _); (case hR => rfl); (case hrow => exact fun _ _ => RefL.rfl' _); (case hn => first | rfl | simp); (case hrf => exact fun _ => rfl); (case hR' => rfl))
    | ((with_reducible apply Runs.drawnL (id := 5) [] [(39, 0), (42, 0), (45, 0), (48, 2), (50, 0), (53, 2), (55, 2), (56, 2)] tysOK mixed); (case hB => kernel_rfl))
    | ((first | with_reducible apply ROps.storeW | ((with_reducible apply DOps.storeW); case hg => rfl)); (case hop => rfl); (case hp => rfl); (case hR => rfl); (case hj => omega); (case hi => rfl); (case hc => exact (rfl : _ = some (eS41 _))); (case hs => rfl); (case hk => exact Nat.le_refl _); (case hrow => exact setR_rows (e := eS41) (z := z41) (by simp) (by omega) rfl); (case hR' => rfl); (case hw => rfl); (case hdst => rfl))
    | ((with_reducible apply ROps.appM); (case hdst => exact (rfl : _ = some 37)); (case hop => rfl); (case hti => rfl); (case hsz => rfl); (case hs => rfl); (case hR => rfl); (case hx => rfl); (case hm => first | assumption | omega); (case hb => constructor <;> ((try simp only [List.length_nil, List.length_cons, Nat.zero_add] at *) <;> (try simp only [maxLen] at *) <;> omega)); (case hR' => rfl); (case hw => rfl); (case hd => rfl))
    | ((first | with_reducible apply ROps.litO | with_reducible apply DOps.litO); (case hdst => exact (rfl : _ = some 34)); (case hop => rfl); (case hti => rfl); (case hsz => rfl); (case hl => rfl); (case hrf => rfl); (case hw => rfl); (all_goals try rfl))
    | ((with_reducible replace H := some_ite H); obtain ⟨_, H⟩ := H)
    | (with_reducible replace H := some_bind_ H)
    | (with_reducible replace H := true_ite H)
    | (with_reducible replace H := false_ite H)
    | ((with_reducible have hb := bool_ite H); clear H; rcases hb with ⟨e_, H⟩ | ⟨e_, H⟩ <;> subst e_)
    | ((first | with_reducible apply ROps.pure | ((with_reducible apply DOps.pure); case hg => rfl)); (case hop => rfl); (case hw => rfl); (case hdst => rfl); (case hd => rfl))
    | (first | with_reducible apply ROps.nil | with_reducible apply DOps.nil)
    | (with_reducible apply Runs.seq)
    | (with_reducible apply Runs.region tysOK)
    | ((with_reducible apply Runs.drawnE [34, 37] tysOK mixed); (case hB => kernel_rfl))
    | (with_reducible apply Runs.skip)
    | (with_reducible apply Runs.scope)
    | (with_reducible apply Runs.inScope)
    | (with_reducible apply Runs.label)
    | ((with_reducible apply Runs.condT); (case ho => rfl))
    | ((with_reducible apply Runs.condF); (case ho => rfl))
    | ((first | with_reducible apply ROps.store | ((with_reducible apply DOps.store); case hg => rfl)); (case hop => rfl); (case hp => rfl); (case hR => rfl); (case hc => rfl); (case hl => first | (dsimp only [setR_one, setR, Nat.beq, cond]; done) | (dsimp only [setR_one, setR, Nat.beq, cond]; rfl) | rfl); (case hl' => first | (dsimp only [List.take, List.drop, List.append, List.nil_append, List.cons_append, List.map, List.length, Nat.add]; rfl) | rfl); (case hw => rfl); (all_goals try rfl))
    | ((first | with_reducible apply ROps.cmp | with_reducible apply DOps.cmp); (case hop => exact cmpX); (case hw => rfl); (case hdst => rfl); (case hd => rfl); (all_goals (intro h; first | (replace H := ite_pos_ h H) | (replace H := ite_neg_ h H) | (replace H := ite_pos_ (Decidable.not_not.1 h) H) | ((try simp only [rd_T41, rdOf] at h); (try simp only [rd_T41, rdOf] at H); (rw [if_pos h] at H)) | ((try simp only [rd_T41, rdOf] at h); (try simp only [rd_T41, rdOf] at H); (rw [if_neg h] at H)) | contradiction | skip)))
    | ((first | with_reducible apply ROps.val | with_reducible apply DOps.val); (case hop => exact valX); (case hw => rfl); (case hdst => rfl); (case hd => rfl))
    | ((first | ((with_reducible apply ROps.eqS); case hop => rfl) | ((with_reducible apply DOps.eqS); case hop => rfl) | ((with_reducible apply ROps.neS); case hop => rfl) | ((with_reducible apply DOps.neS); case hop => rfl)); (case ht => rfl); (case hx => rfl); (case hy => rfl); (case hl => rfl); (case hr => rfl); (case hw => rfl); (case hdst => rfl); (case hd => rfl); (all_goals (intro h; first | (replace H := ite_posF H h) | (replace H := ite_negF H h) | (dsimp only [eqP, eqA] at h) | skip)))
    | ((first | with_reducible apply ROps.idx | with_reducible apply DOps.idx); (case hop => rfl); (case hx => rfl); (case hi => rfl); (case he => rfl); (case hw => rfl); (case hdst => rfl); (case hd => rfl); (case h0 => first | assumption | omega); (case h1 => first | assumption | omega))
    | ((first | with_reducible apply ROps.idxM | with_reducible apply DOps.idxM); (case hop => rfl); (case hx => rfl); (case hR => rfl); (case hi => rfl); (case he => rfl); (case hw => rfl); (case hdst => rfl); (case hd => rfl); (case h0 => first | assumption | omega); (case h1 => first | assumption | omega))
    | ((first | with_reducible apply ROps.loadM | ((with_reducible apply DOps.loadM); case hg => rfl)); (case hop => rfl); (case hp => rfl); (case hR => rfl); (case hj => omega); (case hti => rfl); (case hl => rfl); (case hw => rfl); (case hdst => rfl); (case hd => rfl))
    | ((with_reducible apply ROps.alloc); (case hop => rfl); (case hw => rfl); (all_goals try rfl))
    | ((first | with_reducible apply ROps.box | with_reducible apply DOps.box); (case hop => rfl); (case hx => rfl); (case hrf => rfl); (case hw => rfl); (all_goals try rfl))
    | ((first | with_reducible apply ROps.lit | with_reducible apply DOps.lit); (case hop => rfl); (case hti => rfl); (case hsz => rfl); (case hl => rfl); (case hrf => rfl); (case hw => rfl); (all_goals try rfl))
    | ((first | with_reducible apply ROps.app | with_reducible apply DOps.app); (case hop => rfl); (case hti => rfl); (case hsz => rfl); (case hs => rfl); (case hR => rfl); (case hx => rfl); (case hb => constructor <;> ((try simp only [maxLen, List.length_nil, List.length_cons, List.length_append] at *); omega)); (case hw => rfl); (all_goals try rfl))
    | ((first | with_reducible apply ROps.appN | with_reducible apply DOps.appN); (case hop => rfl); (case hti => rfl); (case hsz => rfl); (case hs => rfl); (case hx => rfl); (case hb => constructor <;> ((try simp only [maxLen, List.length_nil, List.length_cons, List.length_append] at *); omega)); (case hw => rfl); (all_goals try rfl))
    | ((first | with_reducible apply ROps.off | with_reducible apply DOps.off); (case hw => rfl); (case hdst => rfl); (case hd => rfl))
    | ((with_reducible have hB : (boarderlaw13_Great.f _ _ _ _).bind _ = some _ := H); clear hB; (replace H := bind_some' H); (obtain ⟨t_, H1, H⟩ := H); (try dsimp only at H); (first | with_reducible apply ROps.call | with_reducible apply DOps.call); (case hop => rfl); (case hc => exact boarderlaw13_Great.ok H1); (case ha => exact argsX); (case hw => rfl); (case hdst => rfl); (case hd => rfl))
    | ((with_reducible have hB : (boarderlaw13_knows.f _).bind _ = some _ := H); clear hB; (replace H := bind_some' H); (obtain ⟨t_, H1, H⟩ := H); (try dsimp only at H); (first | with_reducible apply ROps.call | with_reducible apply DOps.call); (case hop => rfl); (case hc => exact boarderlaw13_knows.ok H1); (case ha => exact argsX); (case hw => rfl); (case hdst => rfl); (case hd => rfl))
    | ((with_reducible have hB : (conf_Check.f _ _ _ _).bind _ = some _ := H); clear hB; (replace H := bind_some' H); (obtain ⟨t_, H1, H⟩ := H); (try dsimp only at H); (first | with_reducible apply ROps.call | with_reducible apply DOps.call); (case hop => rfl); (case hc => exact conf_Check.ok H1); (case ha => exact argsX); (case hw => rfl); (case hdst => rfl); (case hd => rfl))
    | ((with_reducible apply Runs.retP tysOK); (case hrs => rfl); (case h => rfl); (case hr => (cases H; exact refX)); (case hx => rfl))
    | exact leRX
    | (refine Runs.code_eq (p' := .seq _ _) rfl ?_)
    | (refine Runs.code_eq (p' := .region _ _ _) rfl ?_)
    | (refine Runs.code_eq (p' := .cond _ _ _) rfl ?_)
    | (refine Runs.code_eq (p' := .block _ _) rfl ?_)
    | (refine Runs.code_eq (p' := .loop _) rfl ?_)
    | (refine Runs.code_eq (p' := .exit _) rfl ?_)
    | (refine Runs.code_eq (p' := .ret) rfl ?_)
    | (refine Runs.code_eq (p' := .skip) rfl ?_)
    | (refine Runs.code_eq (p' := .label _) rfl ?_)
    | (refine Runs.code_eq (p' := .scope _) rfl ?_))
theorem boarderlaw13_ConfOrder.ok {k : Nat} {p0_0 : Int} {p0_1 : Int} {p0_2 : List (S41)} {p1 : Int} {p2 : Int} {r0 : Bool} (H : boarderlaw13_ConfOrder.f k p0_0 p0_1 p0_2 p1 p2 = some r0) : CallOK Try.prog glo 6 [.agg [.imm (.int .i64 p0_0), .imm (.int .i64 p0_1), vS41 p0_2], .imm (.int .i64 p1), .imm (.int .i64 p2)] (.imm (.bool r0)) :=
  CallOK.of (c := boarderlaw13_ConfOrder.cx) (p := bodyOf Try.f6) Try.func6 rfl rfl rfl (Nat.le_of_ble_eq_true rfl) rfl (boarderlaw13_ConfOrder.seg r0 k p0_0 p0_1 p0_2 p1 p2 H)
end Go.Proofs.Ytdcabfonjmeajaa.POrder
set_option linter.unusedVariables false
set_option linter.unusedSimpArgs false
namespace Go.Proofs.Ytdcabfonjmeajaa.Com
open Go.RowKit Go.Proofs.YtdcabfonjmeajaaW.PrintWords Go.Proofs.YtdcabfonjmeajaaW.PrintLast Go.Proofs.YtdcabfonjmeajaaW.PrintMore

theorem toNat_ofInt_nat (a : Nat) (ha : a < 9223372036854775808) : (BitVec.ofInt 64 (a : Int)).toNat = a := by
  rw [BitVec.ofInt_natCast, BitVec.toNat_ofNat]; exact Nat.mod_eq_of_lt (by omega)
theorem i64_and_nat (a b : Nat) (ha : a < 9223372036854775808) (hb : b < 9223372036854775808) : Go.bits .and .i64 (a : Int) (b : Int) = ((a &&& b : Nat) : Int) := by
  have hx : a &&& b < 2 ^ 63 := Nat.and_lt_two_pow _ (by omega)
  show IntKind.i64.wrap ((BitVec.ofInt 64 (a : Int) &&& BitVec.ofInt 64 (b : Int)).toNat : Int) = _
  rw [BitVec.toNat_and, toNat_ofInt_nat a ha, toNat_ofInt_nat b hb, IntKind.wrap_i64]
  omega
theorem i64_or_nat (a b : Nat) (ha : a < 9223372036854775808) (hb : b < 9223372036854775808) : Go.bits .or .i64 (a : Int) (b : Int) = ((a ||| b : Nat) : Int) := by
  have hx : a ||| b < 2 ^ 63 := Nat.or_lt_two_pow (by omega) (by omega)
  show IntKind.i64.wrap ((BitVec.ofInt 64 (a : Int) ||| BitVec.ofInt 64 (b : Int)).toNat : Int) = _
  rw [BitVec.toNat_or, toNat_ofInt_nat a ha, toNat_ofInt_nat b hb, IntKind.wrap_i64]
  omega
/-- 'or' of a multiple of 2^n and of a number below 2^n. -/
theorem i64_or_add (a p : Nat) (n : Nat) (hp : p < 2 ^ n) (h : a * 2 ^ n + p < 9223372036854775808) : Go.bits .or .i64 ((a * 2 ^ n : Nat) : Int) (p : Int) = ((a * 2 ^ n + p : Nat) : Int) := by
  rw [i64_or_nat _ _ (by omega) (by omega), Nat.mul_comm a, ← Nat.two_pow_add_eq_or_of_lt hp a]
end Go.Proofs.Ytdcabfonjmeajaa.Com
set_option linter.unusedVariables false
set_option linter.unusedSimpArgs false
namespace Go.Proofs.Ytdcabfonjmeajaa.Com
open Go.RowKit Go.Proofs.YtdcabfonjmeajaaW.PrintWords Go.Proofs.YtdcabfonjmeajaaW.PrintLast Go.Proofs.YtdcabfonjmeajaaW.PrintMore

/-! ### decimal digits -/
/-- A number's decimal digits, as bytes' numbers. -/
def decI (n : Nat) : List Int := if h : n < 10 then [(48 + n : Int)] else decI (n / 10) ++ [(48 + (n % 10 : Nat) : Int)]
termination_by n
decreasing_by omega
/-- Bytes of numbers. -/
def bys (l : List Int) : List UInt8 := l.map fun n => UInt8.ofNat n.toNat
/-! ### an address's text -/
def b3 (a : Nat) : Nat := a / 16777216 % 256
def b2 (a : Nat) : Nat := a / 65536 % 256
def b1 (a : Nat) : Nat := a / 256 % 256
def b0 (a : Nat) : Nat := a % 256
def textI (a : Nat) : List Int := decI (b3 a) ++ 46 :: (decI (b2 a) ++ 46 :: (decI (b1 a) ++ 46 :: decI (b0 a)))
def textB (a : Nat) : List UInt8 := bys (textI a)

/-! ### reading it -/
/-- What is left of a text, as its bytes; the address and the part so far, the part's digits, the points. -/
def addrGo : List UInt8 → Int → Int → Int → Int → Int × Int
  | [], a, p, m, q => if q = 3 ∧ 0 < m then (a * 256 + p, 0) else (0, 2)
  | c :: cs, a, p, m, q =>
    if (c.toNat : Int) = 46 ∧ 0 < m ∧ q < 3 then addrGo cs (a * 256 + p) 0 0 (q + 1)
    else if 48 ≤ (c.toNat : Int) ∧ (c.toNat : Int) ≤ 57 ∧ (m = 0 ∨ 0 < p) ∧ p * 10 + ((c.toNat : Int) - 48) ≤ 255 then addrGo cs a (p * 10 + ((c.toNat : Int) - 48)) (m + 1) q
    else (0, 2)
/-- The text of what was read so far: the points' parts, and the part that is begun. -/
def soFar (a p m q : Int) : List UInt8 :=
  (if q ≤ 0 then [] else if q ≤ 1 then bys (decI a.toNat ++ [46]) else if q ≤ 2 then bys (decI (a.toNat / 256) ++ 46 :: (decI (a.toNat % 256) ++ [46])) else bys (decI (a.toNat / 65536) ++ 46 :: (decI (a.toNat / 256 % 256) ++ 46 :: (decI (a.toNat % 256) ++ [46]))))
   ++ (if m ≤ 0 then [] else bys (decI p.toNat))
/-- What holds of the numbers. -/
def AInv (a p m q : Int) : Prop := 0 ≤ p ∧ p ≤ 255 ∧ 0 ≤ m ∧ (m ≤ 0 → p ≤ 0) ∧ 0 ≤ q ∧ q ≤ 3 ∧ 0 ≤ a ∧ (q ≤ 0 → a ≤ 0) ∧ (q ≤ 1 → a ≤ 255) ∧ (q ≤ 2 → a ≤ 65535) ∧ a ≤ 16777215
/-! ### prefixes -/
/-- How many addresses a prefix of so many bits has. -/
def sz (n : Int) : Nat := 2 ^ (32 - n.toNat)
theorem sz_pos (n : Int) : 0 < sz n := Nat.two_pow_pos _
theorem sz_le (n : Int) : sz n ≤ 4294967296 := by
  have : sz n ≤ 2 ^ 32 := Nat.pow_le_pow_right (by omega) (by omega)
  omega
theorem sz_all (n : Int) (h0 : 0 ≤ n) (h1 : n ≤ 32) : 4294967296 = sz n * 2 ^ n.toNat := by
  unfold sz
  rw [← Nat.pow_add, show 32 - n.toNat + n.toNat = 32 from by omega]
/-- A mask of the highest of 32 bits. -/
theorem mask_eq (j : Nat) (hj : j ≤ 32) : 4294967296 - 2 ^ j = (2 ^ (32 - j) - 1) * 2 ^ j := by
  rw [Nat.sub_mul, ← Nat.pow_add, show 32 - j + j = 32 from by omega, Nat.one_mul]
theorem mask_bit (j i : Nat) (hj : j ≤ 32) : (4294967296 - 2 ^ j).testBit i = (decide (j ≤ i) && decide (i < 32)) := by
  rw [mask_eq j hj, Nat.testBit_mul_two_pow, Nat.testBit_two_pow_sub_one]
  by_cases h : j ≤ i
  · by_cases h2 : i < 32
    · simp [h, h2, show i - j < 32 - j from by omega]
    · simp [h, h2, show ¬ i - j < 32 - j from by omega]
  · simp [h]
theorem high_bit (b i : Nat) (hb : b < 4294967296) (hi : 32 ≤ i) : b.testBit i = false :=
  Nat.testBit_lt_two_pow (Nat.lt_of_lt_of_le (show b < 2 ^ 32 from hb) (Nat.pow_le_pow_right (by omega) hi))
theorem and_mask (b j : Nat) (hb : b < 4294967296) (hj : j ≤ 32) : b &&& (4294967296 - 2 ^ j) = b / 2 ^ j * 2 ^ j := by
  apply Nat.eq_of_testBit_eq
  intro i
  rw [Nat.testBit_and, mask_bit j i hj, Nat.testBit_mul_two_pow, Nat.testBit_div_two_pow]
  by_cases h : j ≤ i
  · rw [show i - j + j = i from by omega]
    by_cases h2 : i < 32
    · simp [h, h2]
    · simp [h, h2, high_bit b i hb (by omega)]
  · simp [h]
theorem i64_andNot_mask (b j : Nat) (hb : b < 4294967296) (hj : j ≤ 32) : Go.bits .andNot .i64 (b : Int) ((4294967296 - 2 ^ j : Nat) : Int) = ((b % 2 ^ j : Nat) : Int) := by
  have hm : 4294967296 - 2 ^ j < 9223372036854775808 := Nat.lt_of_le_of_lt (Nat.sub_le _ _) (by omega)
  show IntKind.i64.wrap ((BitVec.ofInt 64 (b : Int) &&& ~~~ BitVec.ofInt 64 ((4294967296 - 2 ^ j : Nat) : Int)).toNat : Int) = _
  have key : (BitVec.ofInt 64 (b : Int) &&& ~~~ BitVec.ofInt 64 ((4294967296 - 2 ^ j : Nat) : Int)).toNat = b % 2 ^ j := by
    apply Nat.eq_of_testBit_eq
    intro i
    rw [BitVec.testBit_toNat, BitVec.getLsbD_and, BitVec.getLsbD_not, ← BitVec.testBit_toNat, ← BitVec.testBit_toNat, toNat_ofInt_nat b (by omega), toNat_ofInt_nat _ hm, mask_bit j i hj, Nat.testBit_mod_two_pow]
    by_cases h2 : i < 32
    · by_cases h : j ≤ i
      · simp [h, h2, show ¬ i < j from by omega]
      · simp [h, h2, show i < j from by omega, show i < 64 from by omega]
    · simp [high_bit b i hb (by omega)]
  rw [key, IntKind.wrap_i64]
  have : b % 2 ^ j ≤ b := Nat.mod_le _ _
  omega
/-- Is a prefix right? -/
def fairB (b n : Int) : Bool := decide (0 ≤ n ∧ n ≤ 32 ∧ 0 ≤ b ∧ b ≤ 4294967295 ∧ b % (sz n : Int) = 0)
theorem fairB_iff (b n : Int) : fairB b n = true ↔ 0 ≤ n ∧ n ≤ 32 ∧ 0 ≤ b ∧ b ≤ 4294967295 ∧ b % (sz n : Int) = 0 := by unfold fairB; exact decide_eq_true_iff
/-- Has it an address? -/
def hasB (b n a : Int) : Bool := fairB b n && decide (b ≤ a ∧ a < b + sz n)
/-- A prefix that is right ends within all addresses. -/
theorem fair_end (b n : Int) (h : fairB b n = true) : b + sz n ≤ 4294967296 := by
  obtain ⟨h0, h1, h2, h3, h4⟩ := (fairB_iff b n).1 h
  have e := sz_all n h0 h1
  have hp := sz_pos n
  obtain ⟨q, hq⟩ := Int.dvd_of_emod_eq_zero h4
  have hlt : q < ((2 ^ n.toNat : Nat) : Int) := by
    refine Int.lt_of_not_ge fun hge => ?_
    have : (sz n : Int) * ((2 ^ n.toNat : Nat) : Int) ≤ sz n * q := Int.mul_le_mul_of_nonneg_left hge (by omega)
    rw [← Int.natCast_mul, ← e] at this
    omega
  have : (sz n : Int) * (q + 1) ≤ sz n * ((2 ^ n.toNat : Nat) : Int) := Int.mul_le_mul_of_nonneg_left (by omega) (by omega)
  rw [← Int.natCast_mul, ← e, Int.mul_add, ← hq] at this
  omega
end Go.Proofs.Ytdcabfonjmeajaa.Com
set_option linter.unusedVariables false
set_option linter.unusedSimpArgs false
namespace Go.Proofs.Ytdcabfonjmeajaa.POrder
open Go.RowKit Go.Proofs.YtdcabfonjmeajaaW.PrintWords Go.Proofs.YtdcabfonjmeajaaW.PrintLast Go.Proofs.YtdcabfonjmeajaaW.PrintMore

/-! Loops that end at the first round that doesn't pass. -/
theorem loopE {β : Type} {L : Nat → Int → Option β} {n : Nat} (p : Nat → Prop) (v : Nat → β) {r : β}
    (hok : ∀ i, i < n → p i → ∀ r, Ev (fun k => L k ((i + 1 : Nat) : Int)) r → Ev (fun k => L k (i : Int)) r)
    (hbad : ∀ i, i < n → ¬ p i → Ev (fun k => L k (i : Int)) (v i))
    (hend : (∀ i, i < n → p i) → Ev (fun k => L k (n : Int)) r)
    (hr : ∀ i, i < n → (∀ j, j < i → p j) → ¬ p i → r = v i) : Ev (fun k => L k 0) r := by
  have H : ∀ d i, i + d = n → (∀ j, j < i → p j) → Ev (fun k => L k (i : Int)) r := by
    intro d
    induction d with
    | zero =>
      intro i hi hp
      obtain rfl : i = n := by omega
      exact hend hp
    | succ d ih =>
      intro i hi hp
      by_cases h : p i
      · refine hok i (by omega) h _ (ih (i + 1) (by omega) (fun j hj => ?_))
        rcases Nat.lt_succ_iff_lt_or_eq.1 hj with h1 | h1
        · exact hp j h1
        · subst h1; exact h
      · rw [hr i (by omega) hp h]
        exact hbad i (by omega) h
  exact H n 0 (by omega) (fun j hj => by omega)
/-- The same, where a round that doesn't pass always ends it alike. -/
theorem loopC {β : Type} {L : Nat → Int → Option β} {n : Nat} (p : Nat → Prop) (c : β) {r : β}
    (hok : ∀ i, i < n → p i → ∀ r, Ev (fun k => L k ((i + 1 : Nat) : Int)) r → Ev (fun k => L k (i : Int)) r)
    (hbad : ∀ i, i < n → ¬ p i → Ev (fun k => L k (i : Int)) c)
    (hend : (∀ i, i < n → p i) → Ev (fun k => L k (n : Int)) r)
    (hr : (∃ i, i < n ∧ ¬ p i) → r = c) : Ev (fun k => L k 0) r :=
  loopE p (fun _ => c) hok hbad hend (fun i hi _ h => hr ⟨i, hi, h⟩)
theorem wrap_next {i n : Nat} (h : i < n) (hn : n ≤ 140737488355328) : wrap64 ((i : Int) + 1) = ((i + 1 : Nat) : Int) := by unfold wrap64; omega
theorem Ev.pos {α : Type} {c : Prop} [Decidable c] (h : c) {f g : Nat → Option α} {r : α} (e : Ev f r) : Ev (fun k => if c then f k else g k) r := Ev.congr (fun _ => if_pos h) e
theorem Ev.neg {α : Type} {c : Prop} [Decidable c] (h : ¬ c) {f g : Nat → Option α} {r : α} (e : Ev g r) : Ev (fun k => if c then f k else g k) r := Ev.congr (fun _ => if_neg h) e
theorem Ev.some' {α : Type} {r : α} : Ev (fun _ => some r) r := Ev.now r

abbrev Rg := S62
abbrev Rs := S59
abbrev Sb := S57
abbrev Nt := S41
abbrev Sp := S66
def keyB (s : ByteArray) : Bool := decide (3 ≤ s.size) && (decide (bt s 0 = 105 ∧ s.size ≤ 256) || decide (bt s 0 = 104 ∧ s.size ≤ 18))
/-- What a law's reading and its guard tell of a configuration: no list and no key is great. -/
def Sm (nets : List Nt) : Prop := nets.length ≤ 10 ∧ ∀ n ∈ nets, n.f0.length ≤ 10 ∧ ∀ s ∈ n.f0, s.f2.length ≤ 20 ∧ s.f3.length ≤ 20 ∧ ∀ r ∈ s.f3, r.f0.size ≤ 1000
def SmS (s : Sb) : Prop := s.f2.length ≤ 20 ∧ s.f3.length ≤ 20 ∧ ∀ r ∈ s.f3, r.f0.size ≤ 1000
/-- Is a subnet's form right? -/
def FairS (s : Sb) : Prop := Com.fairB s.f0 s.f1 = true ∧ 8 ≤ s.f1 ∧ s.f1 ≤ 30 ∧ s.f2.length ≤ 4 ∧ s.f3.length ≤ 8 ∧ 0 ≤ s.f4 ∧ s.f4 ≤ 99 ∧ 1 ≤ s.f6 ∧ s.f6 ≤ 2147483648 ∧ (∀ i, (h : i < s.f2.length) → s.f2[i].f0 ≤ s.f2[i].f1) ∧ ∀ i, (h : i < s.f3.length) → keyB s.f3[i].f0 = true
theorem rd_get {α : Type} {xs : List α} {i : Nat} {d : α} (h : i < xs.length) : xs.getD ((i : Int)).toNat d = xs[i] := by
  rw [Int.toNat_natCast, List.getD_eq_getElem?_getD, List.getElem?_eq_getElem h]; rfl
/-- All subnets, and their places. -/
def subAt (n : Int) : Nat → List Sb → List Sp
  | _, [] => []
  | i, s :: r => ⟨n, (i : Int), s⟩ :: subAt n (i + 1) r
def spotsFrom : Nat → List Nt → List Sp
  | _, [] => []
  | n, x :: r => subAt (n : Int) 0 x.f0 ++ spotsFrom (n + 1) r
def spotsL (nets : List Nt) : List Sp := spotsFrom 0 nets
theorem subAt_len (n : Int) : ∀ (i : Nat) (l : List Sb), (subAt n i l).length = l.length
  | _, [] => rfl
  | i, s :: r => by rw [subAt, List.length_cons, subAt_len n (i + 1) r, List.length_cons]
theorem subAt_mem {n : Int} {x : Sp} : ∀ {i : Nat} {l : List Sb}, x ∈ subAt n i l → x.f0 = n ∧ x.f2 ∈ l
  | i, s :: r, h => by
    rw [subAt, List.mem_cons] at h
    rcases h with rfl | h
    · exact ⟨rfl, List.mem_cons_self⟩
    · exact ⟨(subAt_mem h).1, List.mem_cons_of_mem _ (subAt_mem h).2⟩
theorem subAt_of {n : Int} {s : Sb} : ∀ {i : Nat} {l : List Sb}, s ∈ l → ∃ x ∈ subAt n i l, x.f2 = s
  | i, t :: r, h => by
    rcases List.mem_cons.1 h with rfl | h
    · exact ⟨_, List.mem_cons_self, rfl⟩
    · obtain ⟨x, hx, e⟩ := subAt_of (i := i + 1) h
      exact ⟨x, List.mem_cons_of_mem _ hx, e⟩
theorem spots_mem {x : Sp} : ∀ {n : Nat} {nets : List Nt}, x ∈ spotsFrom n nets → ∃ y ∈ nets, x.f2 ∈ y.f0
  | n, y :: r, h => by
    rw [spotsFrom, List.mem_append] at h
    rcases h with h | h
    · exact ⟨y, List.mem_cons_self, (subAt_mem h).2⟩
    · obtain ⟨z, hz, hx⟩ := spots_mem h
      exact ⟨z, List.mem_cons_of_mem _ hz, hx⟩
theorem spots_of {y : Nt} {s : Sb} (hs : s ∈ y.f0) : ∀ {n : Nat} {nets : List Nt}, y ∈ nets → ∃ x ∈ spotsFrom n nets, x.f2 = s
  | n, z :: r, h => by
    rcases List.mem_cons.1 h with rfl | h
    · obtain ⟨x, hx, e⟩ := subAt_of (n := (n : Int)) (i := 0) hs
      exact ⟨x, by rw [spotsFrom]; exact List.mem_append_left _ hx, e⟩
    · obtain ⟨x, hx, e⟩ := spots_of hs (n := n + 1) h
      exact ⟨x, by rw [spotsFrom]; exact List.mem_append_right _ hx, e⟩
/-- What holds of all spots holds of all subnets, and the other way round. -/
theorem spots_all {F : Sb → Prop} {nets : List Nt} : (∀ x ∈ spotsL nets, F x.f2) ↔ ∀ n ∈ nets, ∀ s ∈ n.f0, F s :=
  ⟨fun h n hn s hs => by obtain ⟨x, hx, rfl⟩ := spots_of hs (n := 0) hn; exact h x hx, fun h x hx => by obtain ⟨y, hy, hx⟩ := spots_mem hx; exact h y hy _ hx⟩
theorem spots_len : ∀ {n : Nat} {nets : List Nt}, (∀ x ∈ nets, x.f0.length ≤ 10) → (spotsFrom n nets).length ≤ 10 * nets.length
  | n, [], _ => by simp [spotsFrom]
  | n, x :: r, h => by
    rw [spotsFrom, List.length_append, subAt_len, List.length_cons]
    have := spots_len (n := n + 1) (fun y hy => h y (List.mem_cons_of_mem _ hy))
    have := h x List.mem_cons_self
    omega
def FormP (a b : Int) (nets : List Nt) : Prop := 0 ≤ a ∧ a ≤ 4294967295 ∧ 1 ≤ b ∧ b ≤ 2147483648 ∧ nets.length ≤ 4 ∧ (∀ n ∈ nets, 1 ≤ n.f0.length ∧ n.f0.length ≤ 4) ∧ ∀ n ∈ nets, ∀ s ∈ n.f0, FairS s
/-- May a subnet lend an address? -/
def InS (s : Sb) (a : Int) : Prop := s.f0 < a ∧ a < s.f0 + (Com.sz s.f1 : Int) - 1
instance (s : Sb) (a : Int) : Decidable (InS s a) := by unfold InS; infer_instance
def PlaceS (srv : Int) (s : Sb) : Prop := (∀ i, (h : i < s.f2.length) → InS s s.f2[i].f0 ∧ InS s s.f2[i].f1 ∧ ¬ (s.f2[i].f0 ≤ srv ∧ srv ≤ s.f2[i].f1)) ∧ (∀ i, (h : i < s.f3.length) → InS s s.f3[i].f1 ∧ s.f3[i].f1 ≠ srv) ∧ (s.f5 ≠ 0 → Com.hasB s.f0 s.f1 s.f5 = true)
/-- Do two prefixes meet? -/
def meetC (b n c m : Int) : Bool := Com.fairB b n && (Com.fairB c m && (decide (b ≤ c ∧ c < b + Com.sz n) || decide (c ≤ b ∧ b < c + Com.sz m)))
theorem meetC_comm (b n c m : Int) : meetC b n c m = meetC c m b n := by
  unfold meetC
  cases Com.fairB b n <;> cases Com.fairB c m <;> simp [Bool.or_comm]
def DisjP (p q : Rg) : Prop := ¬ (p.f0 ≤ q.f0 ∧ q.f0 ≤ p.f1) ∧ ¬ (q.f0 ≤ p.f0 ∧ p.f0 ≤ q.f1)
def DifR (n n' : Int) (r q : Rs) : Prop := r.f1 ≠ q.f1 ∧ ¬ (n = n' ∧ r.f0.toList = q.f0.toList)
def FarS (x y : Sp) : Prop := meetC x.f2.f0 x.f2.f1 y.f2.f0 y.f2.f1 = false ∧ ¬ (x.f0 ≠ y.f0 ∧ x.f2.f4 = y.f2.f4 ∧ x.f2.f4 > 0)
theorem FarS.symm {x y : Sp} (h : FarS x y) : FarS y x := ⟨by rw [meetC_comm]; exact h.1, fun h2 => h.2 ⟨h2.1.symm, h2.2.1.symm, by rw [← h2.2.1]; exact h2.2.2⟩⟩
theorem DifR.symm {n n' : Int} {r q : Rs} (h : DifR n n' r q) : DifR n' n q r := ⟨h.1.symm, fun h2 => h.2 ⟨h2.1.symm, h2.2.symm⟩⟩
def OnceP (x y : Sp) (same : Bool) : Prop := (same = false → FarS x y) ∧ (same = true → ∀ i j, (hi : i < x.f2.f2.length) → (hj : j < y.f2.f2.length) → i ≠ j → DisjP x.f2.f2[i] y.f2.f2[j]) ∧
  ∀ i j, (hi : i < x.f2.f3.length) → (hj : j < y.f2.f3.length) → (same = true → i ≠ j) → DifR x.f0 y.f0 x.f2.f3[i] y.f2.f3[j]
def UnlikeP (l : List Sp) : Prop := ∀ i j, (hi : i < l.length) → (hj : j < l.length) → OnceP l[i] l[j] (decide (i = j))
def OverP (p q : Rg) : Prop := p.f0 ≤ q.f1 ∧ q.f0 ≤ p.f1
def PooledP (s : Sb) : Prop := ∃ i j, ∃ (hi : i < s.f2.length) (hj : j < i), OverP s.f2[i] s.f2[j]
/-- All reservations, each with its network. -/
def resL (l : List Sp) : List (Rs × Int) := l.flatMap (fun x => x.f2.f3.map (fun r => (r, x.f0)))
def DD (u v : Rs × Int) : Prop := DifR u.2 v.2 u.1 v.1
def FreeP (l : List Sp) : Prop := (∀ i, (hi : i < l.length) → ¬ PooledP l[i].f2 ∧ ∀ j, (hj : j < i) → FarS l[i] l[j]) ∧ ∀ a b, (ha : a < (resL l).length) → (hb : b < a) → DD (resL l)[a] (resL l)[b]
theorem pw_iff {α : Type} {D : α → α → Prop} {l : List α} : (∀ a b, (ha : a < l.length) → (hb : b < a) → D l[a] l[b]) ↔ l.Pairwise (fun u v => D v u) := by
  rw [List.pairwise_iff_getElem]
  exact ⟨fun h i j hi hj hij => h j i hj hij, fun h a b ha hb => h b a (by omega) ha hb⟩
theorem resL_pw (l : List Sp) : (resL l).Pairwise (fun u v => DD v u) ↔ (∀ x ∈ l, x.f2.f3.Pairwise (fun r q => DifR x.f0 x.f0 q r)) ∧ l.Pairwise (fun x y => ∀ r ∈ x.f2.f3, ∀ q ∈ y.f2.f3, DifR y.f0 x.f0 q r) := by
  unfold resL
  rw [List.pairwise_flatMap]
  constructor
  · rintro ⟨h1, h2⟩
    refine ⟨fun x hx => ?_, h2.imp (fun h r hr q hq => ?_)⟩
    · have := h1 x hx
      rw [List.pairwise_map] at this
      exact this
    · exact h (r, _) (List.mem_map.2 ⟨r, hr, rfl⟩) (q, _) (List.mem_map.2 ⟨q, hq, rfl⟩)
  · rintro ⟨h1, h2⟩
    refine ⟨fun x hx => ?_, h2.imp (fun h u hu v hv => ?_)⟩
    · rw [List.pairwise_map]
      exact h1 x hx
    · obtain ⟨r, hr, rfl⟩ := List.mem_map.1 hu
      obtain ⟨q, hq, rfl⟩ := List.mem_map.1 hv
      exact h r hr q hq
/-- Nothing is there twice, by each of two ways to say so. -/
theorem unlike_iff {l : List Sp} (hv : ∀ x ∈ l, ∀ i, (h : i < x.f2.f2.length) → x.f2.f2[i].f0 ≤ x.f2.f2[i].f1) : UnlikeP l ↔ FreeP l := by
  unfold FreeP
  rw [pw_iff (D := DD), resL_pw]
  constructor
  · intro h
    refine ⟨fun i hi => ⟨?_, fun j hj => ?_⟩, ?_, ?_⟩
    · rintro ⟨a, b, ha, hb, ho⟩
      have h1 := (h i i hi hi).2.1 (decide_eq_true rfl) a b ha (by omega) (by omega)
      unfold DisjP at h1
      unfold OverP at ho
      obtain ⟨h1, h2⟩ := h1
      rcases Int.le_total l[i].f2.f2[a].f0 l[i].f2.f2[b].f0 with c | c
      · exact h1 ⟨c, ho.2⟩
      · exact h2 ⟨c, ho.1⟩
    · exact (h i j hi (by omega)).1 (decide_eq_false (by omega))
    · intro x hx
      obtain ⟨i, hi, rfl⟩ := List.mem_iff_getElem.1 hx
      rw [List.pairwise_iff_getElem]
      intro a b ha hb hab
      exact (h i i hi hi).2.2 b a hb ha (fun _ => by omega)
    · rw [List.pairwise_iff_getElem]
      intro i j hi hj hij r hr q hq
      obtain ⟨a, ha, rfl⟩ := List.mem_iff_getElem.1 hr
      obtain ⟨b, hb, rfl⟩ := List.mem_iff_getElem.1 hq
      exact (h j i hj hi).2.2 b a hb ha (fun e => absurd (of_decide_eq_true e) (by omega))
  · rintro ⟨h1, h2, h3⟩ i j hi hj
    rw [List.pairwise_iff_getElem] at h3
    refine ⟨fun e => ?_, fun e a b ha hb hab => ?_, fun a b ha hb he => ?_⟩
    · have hne : i ≠ j := of_decide_eq_false e
      rcases Nat.lt_or_gt_of_ne hne with c | c
      · exact ((h1 j hj).2 i c).symm
      · exact (h1 i hi).2 j c
    · have hij : i = j := of_decide_eq_true e
      subst hij
      have hp := (h1 i hi).1
      have v1 := hv l[i] (List.getElem_mem hi) a ha
      have v2 := hv l[i] (List.getElem_mem hi) b hb
      have no : ¬ OverP l[i].f2.f2[a] l[i].f2.f2[b] := by
        intro ho
        rcases Nat.lt_or_gt_of_ne hab with c | c
        · exact hp ⟨b, a, hb, c, ho.2, ho.1⟩
        · exact hp ⟨a, b, ha, c, ho⟩
      exact ⟨fun h => no ⟨Int.le_trans h.1 v2, h.2⟩, fun h => no ⟨h.2, Int.le_trans h.1 v1⟩⟩
    · by_cases hij : i = j
      · subst hij
        have hab := he (decide_eq_true rfl)
        have h4 := h2 l[i] (List.getElem_mem hi)
        rw [List.pairwise_iff_getElem] at h4
        rcases Nat.lt_or_gt_of_ne hab with c | c
        · exact (h4 a b ha hb c).symm
        · exact h4 b a hb ha c
      · rcases Nat.lt_or_gt_of_ne hij with c | c
        · exact (h3 i j hi hj c _ (List.getElem_mem ha) _ (List.getElem_mem hb)).symm
        · exact h3 j i hj hi c _ (List.getElem_mem hb) _ (List.getElem_mem ha)
open Classical in
/-- What is wrong with a configuration. -/
noncomputable def checkI (a b : Int) (nets : List Nt) : Int := if FormP a b nets then (if ∀ n ∈ nets, ∀ s ∈ n.f0, PlaceS a s then (if UnlikeP (spotsL nets) then 0 else 8) else 9) else 1
/-! Searches. -/
theorem getD_some {β : Type} {o : Option β} {d v : β} (h : o = some v) : o.getD d = v := by rw [h]; rfl
/-- The subnets of a configuration that is right. -/
noncomputable def rightL (a b : Int) (nets : List Nt) : List Sp := if checkI a b nets = 0 then spotsL nets else []
def findQ (a : Int) (x : Sp) : Option (Int × Int × Bool) := if Com.hasB x.f2.f0 x.f2.f1 a = true then some (x.f0, x.f1, true) else none
def wireQ (i : Int) (x : Sp) : Option (Int × Int × Bool) := if x.f2.f4 = i ∧ i > 0 then some (x.f0, x.f1, true) else none
def keptG (k : ByteArray) (s : Sb) : Option (Int × Bool) := s.f3.findSome? (fun r => if r.f0.toList = k.toList then some (r.f1, true) else none)
def keepG (a : Int) (s : Sb) : Option (ByteArray × Bool) := s.f3.findSome? (fun r => if r.f1 = a then some (r.f0, true) else none)
def poolG (a : Int) (s : Sb) : Option Bool := s.f2.findSome? (fun p => if p.f0 ≤ a ∧ a ≤ p.f1 then some true else none)
noncomputable def findL (a b : Int) (nets : List Nt) (x : Int) : Int × Int × Bool := ((rightL a b nets).findSome? (findQ x)).getD (0, 0, false)
noncomputable def wireL (a b : Int) (nets : List Nt) (x : Int) : Int × Int × Bool := ((rightL a b nets).findSome? (wireQ x)).getD (0, 0, false)
noncomputable def keptL (a b : Int) (nets : List Nt) (n : Int) (k : ByteArray) : Int × Bool := ((rightL a b nets).findSome? (fun x => if x.f0 = n then keptG k x.f2 else none)).getD (0, false)
noncomputable def keepL (a b : Int) (nets : List Nt) (x : Int) : ByteArray × Bool := ((rightL a b nets).findSome? (fun y => keepG x y.f2)).getD (⟨#[]⟩, false)
noncomputable def poolL (a b : Int) (nets : List Nt) (n x : Int) : Bool := ((rightL a b nets).findSome? (fun y => if y.f0 = n then poolG x y.f2 else none)).getD false
end Go.Proofs.Ytdcabfonjmeajaa.POrder
set_option linter.unusedVariables false
set_option linter.unusedSimpArgs false
namespace Go.Proofs.Ytdcabfonjmeajaa.POrder
open Go.RowKit Go.Proofs.YtdcabfonjmeajaaW.PrintWords Go.Proofs.YtdcabfonjmeajaaW.PrintLast Go.Proofs.YtdcabfonjmeajaaW.PrintMore

/-! ### boarderlaw13.Great -/
theorem boarderlaw13_Great_l2 (a b : Int) (nets : List Nt) (m j : Nat) (hj : j ≤ 1000) (s : Sb) (h20 : s.f3.length ≤ 20) {r : Bool} (h1 : (∀ r ∈ s.f3, r.f0.size ≤ 1000) → Ev (fun k => boarderlaw13_Great.l1 k (m : Int) ((j + 1 : Nat) : Int) a b nets) r) (h2 : (¬ ∀ r ∈ s.f3, r.f0.size ≤ 1000) → r = true) :
    Ev (fun k => boarderlaw13_Great.l2 k (m : Int) (j : Int) 0 a b nets s.f0 s.f1 s.f2 s.f3 s.f4 s.f5 s.f6) r := by
  have hw : wrap64 ((j : Int) + 1) = ((j + 1 : Nat) : Int) := by unfold wrap64; omega
  refine loopC (n := s.f3.length) (L := fun k i => boarderlaw13_Great.l2 k (m : Int) (j : Int) i a b nets s.f0 s.f1 s.f2 s.f3 s.f4 s.f5 s.f6) (fun i => ∃ h : i < s.f3.length, s.f3[i].f0.size ≤ 1000) true (fun i hi hp r h3 => ?_) (fun i hi hp => ?_) (fun h3 => ?_) (fun h3 => ?_)
  · obtain ⟨_, hp⟩ := hp
    refine Ev.step (fun k => ?_) h3
    show boarderlaw13_Great.l2 (k + 1) _ _ _ _ _ _ _ _ _ _ _ _ _ = _
    rw [boarderlaw13_Great.l2, if_pos (by omega), if_pos (by omega), show rd_T59 s.f3 (i : Int) = s.f3[i] from rd_get hi, if_neg (by omega), wrap_next hi (by omega)]
  · have h4 : ¬ s.f3[i].f0.size ≤ 1000 := fun h => hp ⟨hi, h⟩
    refine Ev.step (f := fun _ => some true) (fun k => ?_) Ev.some'
    show boarderlaw13_Great.l2 (k + 1) _ _ _ _ _ _ _ _ _ _ _ _ _ = _
    rw [boarderlaw13_Great.l2, if_pos (by omega), if_pos (by omega), show rd_T59 s.f3 (i : Int) = s.f3[i] from rd_get hi, if_pos (by omega)]
  · refine Ev.step (fun k => ?_) (h1 (fun r hr => by obtain ⟨i, hi, rfl⟩ := List.mem_iff_getElem.1 hr; exact (h3 i hi).2))
    show boarderlaw13_Great.l2 (k + 1) _ _ _ _ _ _ _ _ _ _ _ _ _ = _
    rw [boarderlaw13_Great.l2, if_neg (by omega), hw]
  · obtain ⟨i, hi, hp⟩ := h3
    exact h2 (fun h => hp ⟨hi, h _ (List.getElem_mem hi)⟩)
theorem boarderlaw13_Great_j2 (a b : Int) (nets : List Nt) (m j : Nat) (hj : j ≤ 1000) (s : Sb) (x : Bool) {r : Bool} (hx : x = true → ¬ SmS s) (hx2 : x = false → s.f2.length ≤ 20 ∧ s.f3.length ≤ 20) (h1 : SmS s → Ev (fun k => boarderlaw13_Great.l1 k (m : Int) ((j + 1 : Nat) : Int) a b nets) r) (h2 : ¬ SmS s → r = true) :
    Ev (fun k => boarderlaw13_Great.j2 k (m : Int) (j : Int) x a b nets s.f0 s.f1 s.f2 s.f3 s.f4 s.f5 s.f6) r := by
  cases x with
  | true =>
    rw [h2 (hx rfl)]
    exact Ev.step (f := fun _ => some true) (fun k => by show boarderlaw13_Great.j2 (k + 1) _ _ _ _ _ _ _ _ _ _ _ _ _ = _; rw [boarderlaw13_Great.j2, if_pos rfl]) Ev.some'
  | false =>
    obtain ⟨e1, e2⟩ := hx2 rfl
    exact Ev.step (fun k => by show boarderlaw13_Great.j2 (k + 1) _ _ _ _ _ _ _ _ _ _ _ _ _ = _; rw [boarderlaw13_Great.j2, if_neg (by simp)]) (boarderlaw13_Great_l2 a b nets m j hj s e2 (fun h => h1 ⟨e1, e2, h⟩) (fun h => h2 (fun h3 => h h3.2.2)))
theorem boarderlaw13_Great_l1 (a b : Int) (nets : List Nt) (m : Nat) (hm : m < nets.length) (hn : nets.length ≤ 10) (h10 : nets[m].f0.length ≤ 10) {r : Bool} (h1 : (∀ s ∈ nets[m].f0, SmS s) → Ev (fun k => boarderlaw13_Great.l0 k ((m + 1 : Nat) : Int) a b nets) r) (h2 : (¬ ∀ s ∈ nets[m].f0, SmS s) → r = true) :
    Ev (fun k => boarderlaw13_Great.l1 k (m : Int) 0 a b nets) r := by
  have eN : rd_T41 nets (m : Int) = nets[m] := rd_get hm
  have E : ∀ i (hi : i < nets[m].f0.length) (r : Bool), (SmS nets[m].f0[i] → Ev (fun k => boarderlaw13_Great.l1 k (m : Int) ((i + 1 : Nat) : Int) a b nets) r) → (¬ SmS nets[m].f0[i] → r = true) → Ev (fun k => boarderlaw13_Great.l1 k (m : Int) (i : Int) a b nets) r := by
    intro i hi r h3 h4
    refine Ev.step (f := fun k => if ((nets[m].f0[i].f2).length : Int) > 20 then boarderlaw13_Great.j2 k (m : Int) (i : Int) true a b nets nets[m].f0[i].f0 nets[m].f0[i].f1 nets[m].f0[i].f2 nets[m].f0[i].f3 nets[m].f0[i].f4 nets[m].f0[i].f5 nets[m].f0[i].f6 else boarderlaw13_Great.j2 k (m : Int) (i : Int) (decide (((nets[m].f0[i].f3).length : Int) > 20)) a b nets nets[m].f0[i].f0 nets[m].f0[i].f1 nets[m].f0[i].f2 nets[m].f0[i].f3 nets[m].f0[i].f4 nets[m].f0[i].f5 nets[m].f0[i].f6) (fun k => ?_) ?_
    · show boarderlaw13_Great.l1 (k + 1) _ _ _ _ _ = _
      rw [boarderlaw13_Great.l1, if_pos (by omega), if_pos (by omega), eN, if_pos (by omega), if_pos (by omega), show rd_T57 nets[m].f0 (i : Int) = nets[m].f0[i] from rd_get hi]
    · by_cases c : ((nets[m].f0[i].f2).length : Int) > 20
      · exact Ev.pos c (boarderlaw13_Great_j2 a b nets m i (by omega) nets[m].f0[i] true (fun _ h => by have := h.1; omega) (fun h => by cases h) h3 h4)
      · refine Ev.neg c (boarderlaw13_Great_j2 a b nets m i (by omega) nets[m].f0[i] _ (fun h h5 => ?_) (fun h => ?_) h3 h4)
        · have := of_decide_eq_true h; have := h5.2.1; omega
        · have := of_decide_eq_false h; omega
  refine loopC (n := nets[m].f0.length) (L := fun k i => boarderlaw13_Great.l1 k (m : Int) i a b nets) (fun i => ∃ h : i < nets[m].f0.length, SmS nets[m].f0[i]) true (fun i hi hp r h3 => ?_) (fun i hi hp => ?_) (fun h3 => ?_) (fun h3 => ?_)
  · exact E i hi r (fun _ => h3) (fun h => absurd hp.2 h)
  · exact E i hi true (fun h => absurd ⟨hi, h⟩ hp) (fun _ => rfl)
  · refine Ev.step (fun k => ?_) (h1 (fun s hs => by obtain ⟨i, hi, rfl⟩ := List.mem_iff_getElem.1 hs; exact (h3 i hi).2))
    show boarderlaw13_Great.l1 (k + 1) _ _ _ _ _ = _
    rw [boarderlaw13_Great.l1, if_pos (by omega), if_pos (by omega), eN, if_neg (by omega), wrap_next hm (by omega)]
  · obtain ⟨i, hi, hp⟩ := h3
    exact h2 (fun h => hp ⟨hi, h _ (List.getElem_mem hi)⟩)
open Classical in
theorem boarderlaw13_Great_s (a b : Int) (nets : List Nt) : Ev (fun k => boarderlaw13_Great.f k a b nets) (decide (¬ Sm nets)) := by
  unfold boarderlaw13_Great.f
  by_cases c : (nets.length : Int) > 10
  · rw [show decide (¬ Sm nets) = true from decide_eq_true_iff.2 (fun h => by have := h.1; omega)]
    exact Ev.pos c Ev.some'
  · refine Ev.neg c ?_
    have hn : nets.length ≤ 10 := by omega
    have E : ∀ i (hi : i < nets.length) (r : Bool), ((nets[i].f0.length ≤ 10 ∧ ∀ s ∈ nets[i].f0, SmS s) → Ev (fun k => boarderlaw13_Great.l0 k ((i + 1 : Nat) : Int) a b nets) r) → ((¬ (nets[i].f0.length ≤ 10 ∧ ∀ s ∈ nets[i].f0, SmS s)) → r = true) → Ev (fun k => boarderlaw13_Great.l0 k (i : Int) a b nets) r := by
      intro i hi r h3 h4
      refine Ev.step (f := fun k => if (nets[i].f0.length : Int) > 10 then some true else boarderlaw13_Great.l1 k (i : Int) 0 a b nets) (fun k => ?_) ?_
      · show boarderlaw13_Great.l0 (k + 1) _ _ _ _ = _
        rw [boarderlaw13_Great.l0, if_pos (by omega), if_pos (by omega), show rd_T41 nets (i : Int) = nets[i] from rd_get hi]
      · by_cases c1 : (nets[i].f0.length : Int) > 10
        · rw [h4 (fun h => by have := h.1; omega)]; exact Ev.pos c1 Ev.some'
        · exact Ev.neg c1 (boarderlaw13_Great_l1 a b nets i hi hn (by omega) (fun h => h3 ⟨by omega, h⟩) (fun h => h4 (fun h5 => h h5.2)))
    refine loopC (n := nets.length) (L := fun k i => boarderlaw13_Great.l0 k i a b nets) (fun i => ∃ h : i < nets.length, nets[i].f0.length ≤ 10 ∧ ∀ s ∈ nets[i].f0, SmS s) true (fun i hi hp r h3 => ?_) (fun i hi hp => ?_) (fun h3 => ?_) (fun h3 => ?_)
    · exact E i hi r (fun _ => h3) (fun h => absurd hp.2 h)
    · exact E i hi true (fun h => absurd ⟨hi, h⟩ hp) (fun _ => rfl)
    · rw [show decide (¬ Sm nets) = false from decide_eq_false_iff_not.2 (fun h => h ⟨hn, fun n hn' => by obtain ⟨i, hi, rfl⟩ := List.mem_iff_getElem.1 hn'; exact (h3 i hi).2⟩)]
      refine Ev.step (f := fun _ => some false) (fun k => ?_) Ev.some'
      show boarderlaw13_Great.l0 (k + 1) _ _ _ _ = _
      rw [boarderlaw13_Great.l0, if_neg (by omega)]
    · obtain ⟨i, hi, hp⟩ := h3
      exact decide_eq_true_iff.2 (fun h => hp ⟨hi, h.2 _ (List.getElem_mem hi)⟩)

end Go.Proofs.Ytdcabfonjmeajaa.POrder
