/- What this claim rests on, part 4: abstract values, walks of the code over them, what the functions come to; each under its theorem's own conditions. -/
import Derived.ChangeSame
import Derived.Deep.Fields
import Derived.Deep.Slices
import Derived.KernelRfl
import Derived.Test.YtopbcamlagdieaaProg
import Derived.WideShapes
import Derived.Test.YtopbcamlagdieaaStatsZ3
set_option linter.unusedVariables false
namespace Go.Proofs.Ytopbcamlagdieaa.PStats
open Go.RowKit Go.Proofs.YtopbcamlagdieaaW.PrintWords Go.Proofs.YtopbcamlagdieaaW.PrintLast Go.Proofs.YtopbcamlagdieaaW.PrintMore Go.Proofs.Ytopbcamlagdieaa.Abs
structure S25 where
  f0 : Int
  f1 : Int
  f2 : Int
  f3 : Int
  f4 : Int
  f5 : Int
  f6 : Int
def z25 : S25 := ⟨(0 : Int), (0 : Int), (0 : Int), (0 : Int), (0 : Int), (0 : Int), (0 : Int)⟩
def rd_T25 (xs : List S25) (i : Int) : S25 := xs.getD i.toNat z25
def eS25 (x : S25) : List AV := [.imm (.int .i64 x.f0), .imm (.int .i64 x.f1), .imm (.int .i64 x.f2), .imm (.int .i64 x.f3), .imm (.int .i64 x.f4), .imm (.int .i64 x.f5), .imm (.int .i64 x.f6)]
abbrev vS25 (l : List S25) : AV := .sl l.length 7 (rowsE eS25 z25 l)
structure S76 where
  f0 : Int
  f1 : Int
def z76 : S76 := ⟨(0 : Int), (0 : Int)⟩
def rd_T76 (xs : List S76) (i : Int) : S76 := xs.getD i.toNat z76
def eS76 (x : S76) : List AV := [.imm (.int .i64 x.f0), .imm (.int .i64 x.f1)]
abbrev vS76 (l : List S76) : AV := .sl l.length 2 (rowsE eS76 z76 l)
structure S65 where
  f0 : ByteArray
  f1 : Int
def z65 : S65 := ⟨(⟨#[]⟩ : ByteArray), (0 : Int)⟩
def rd_T65 (xs : List S65) (i : Int) : S65 := xs.getD i.toNat z65
def eS65 (x : S65) : List AV := [.imm (.string x.f0), .imm (.int .i64 x.f1)]
abbrev vS65 (l : List S65) : AV := .sl l.length 2 (rowsE eS65 z65 l)
structure S60 where
  f0 : Int
  f1 : Int
  f2 : (List S76)
  f3 : (List S65)
  f4 : Int
  f5 : Int
  f6 : Int
def z60 : S60 := ⟨(0 : Int), (0 : Int), ([] : List S76), ([] : List S65), (0 : Int), (0 : Int), (0 : Int)⟩
def rd_T60 (xs : List S60) (i : Int) : S60 := xs.getD i.toNat z60
def eS60 (x : S60) : List AV := [.imm (.int .i64 x.f0), .imm (.int .i64 x.f1), vS76 x.f2, vS65 x.f3, .imm (.int .i64 x.f4), .imm (.int .i64 x.f5), .imm (.int .i64 x.f6)]
abbrev vS60 (l : List S60) : AV := .sl l.length 7 (rowsE eS60 z60 l)
structure S56 where
  f0 : (List S60)
def z56 : S56 := ⟨([] : List S60)⟩
def rd_T56 (xs : List S56) (i : Int) : S56 := xs.getD i.toNat z56
def eS56 (x : S56) : List AV := [vS60 x.f0]
abbrev vS56 (l : List S56) : AV := .sl l.length 1 (rowsE eS56 z56 l)
structure S86 where
  f0 : Int
  f1 : Int
  f2 : S60
def z86 : S86 := ⟨(0 : Int), (0 : Int), z60⟩
def rd_T86 (xs : List S86) (i : Int) : S86 := xs.getD i.toNat z86
def eS86 (x : S86) : List AV := [.imm (.int .i64 x.f0), .imm (.int .i64 x.f1), .imm (.int .i64 x.f2.f0), .imm (.int .i64 x.f2.f1), vS76 x.f2.f2, vS65 x.f2.f3, .imm (.int .i64 x.f2.f4), .imm (.int .i64 x.f2.f5), .imm (.int .i64 x.f2.f6)]
abbrev vS86 (l : List S86) : AV := .sl l.length 9 (rowsE eS86 z86 l)
structure S68 where
  f0 : Int
  f1 : Int
  f2 : Int
  f3 : ByteArray
def z68 : S68 := ⟨(0 : Int), (0 : Int), (0 : Int), (⟨#[]⟩ : ByteArray)⟩
def rd_T68 (xs : List S68) (i : Int) : S68 := xs.getD i.toNat z68
def eS68 (x : S68) : List AV := [.imm (.int .i64 x.f0), .imm (.int .i64 x.f1), .imm (.int .i64 x.f2), .imm (.string x.f3)]
abbrev vS68 (l : List S68) : AV := .sl l.length 4 (rowsE eS68 z68 l)
structure S27 where
  f0 : Int
  f1 : Int
  f2 : Int
  f3 : Int
  f4 : Int
  f5 : Int
  f6 : Int
def z27 : S27 := ⟨(0 : Int), (0 : Int), (0 : Int), (0 : Int), (0 : Int), (0 : Int), (0 : Int)⟩
def rd_T27 (xs : List S27) (i : Int) : S27 := xs.getD i.toNat z27
def eS27 (x : S27) : List AV := [.imm (.int .i64 x.f0), .imm (.int .i64 x.f1), .imm (.int .i64 x.f2), .imm (.int .i64 x.f3), .imm (.int .i64 x.f4), .imm (.int .i64 x.f5), .imm (.int .i64 x.f6)]
abbrev vS27 (l : List S27) : AV := .sl l.length 7 (rowsE eS27 z27 l)
noncomputable def tys : Tys := [(3, { kind := some .i64, zero := [.int .i64 0] }), (4, { bol := true, zero := [.bool false] }), (9, { str := true, zero := [.string ⟨#[]⟩] }), (22, { el := 25, elem := 7, eby := 56, zero := [.slice none 0 0] }), (25, { agg := true, size := 7, offs := [0, 1, 2, 3, 4, 5, 6], fsz := [1, 1, 1, 1, 1, 1, 1], eqk := [0, 0, 0, 0, 0, 0, 0], zero := [.int .i64 0, .int .i64 0, .int .i64 0, .int .i64 0, .int .i64 0, .int .i64 0, .int .i64 0] }), (27, { agg := true, size := 7, offs := [0, 1, 2, 3, 4, 5, 6], fsz := [1, 1, 1, 1, 1, 1, 1], eqk := [0, 0, 0, 0, 0, 0, 0], zero := [.int .i64 0, .int .i64 0, .int .i64 0, .int .i64 0, .int .i64 0, .int .i64 0, .int .i64 0] }), (28, { el := 27, elem := 7, eby := 56, zero := [.slice none 0 0] }), (32, { el := 56, elem := 1, eby := 24, zero := [.slice none 0 0] }), (34, { agg := true, size := 3, offs := [0, 1, 2], fsz := [1, 1, 1], zero := [.int .i64 0, .int .i64 0, .slice none 0 0] }), (35, { el := 68, elem := 4, eby := 40, zero := [.slice none 0 0] }), (50, { zero := [.pointer none] }), (54, { el := 60, elem := 7, eby := 88, zero := [.slice none 0 0] }), (56, { agg := true, size := 1, offs := [0], fsz := [1], zero := [.slice none 0 0] }), (57, { el := 76, elem := 2, eby := 16, zero := [.slice none 0 0] }), (58, { el := 65, elem := 2, eby := 24, zero := [.slice none 0 0] }), (60, { agg := true, size := 7, offs := [0, 1, 2, 3, 4, 5, 6], fsz := [1, 1, 1, 1, 1, 1, 1], zero := [.int .i64 0, .int .i64 0, .slice none 0 0, .slice none 0 0, .int .i64 0, .int .i64 0, .int .i64 0] }), (65, { agg := true, size := 2, offs := [0, 1], fsz := [1, 1], zero := [.string ⟨#[]⟩, .int .i64 0] }), (68, { agg := true, size := 4, offs := [0, 1, 2, 3], fsz := [1, 1, 1, 1], zero := [.int .i64 0, .int .i64 0, .int .i64 0, .string ⟨#[]⟩] }), (76, { agg := true, size := 2, offs := [0, 1], fsz := [1, 1], zero := [.int .i64 0, .int .i64 0] }), (77, { el := 3, elem := 1, eby := 8, zero := [.slice none 0 0] }), (83, { el := 86, elem := 9, eby := 104, zero := [.slice none 0 0] }), (86, { agg := true, size := 9, offs := [0, 1, 2], fsz := [1, 1, 7], zero := [.int .i64 0, .int .i64 0, .int .i64 0, .int .i64 0, .slice none 0 0, .slice none 0 0, .int .i64 0, .int .i64 0, .int .i64 0] })]
theorem tysOK : TyOK Try.prog tys := .of (by kernel_rfl)
theorem mixed : Try.prog.follows .mixedOrders = true := by kernel_rfl
def glo : Glo := fun _ => .any
theorem argsX {l r : List AV} (h : ArgsOK l r := by repeat (first | exact ArgsOK.nil | (refine ArgsOK.same rfl ?_) | (refine ArgsOK.ref (Ref.own' (by first | rfl | (simp only [List.length_append, List.length_cons, List.length_nil] <;> omega) | (simp <;> omega)) (by first | exact fun _ _ => rfl | exact rows_snoc rfl | exact rows_nil | exact rows_one rfl | exact rows_two rfl rfl | exact rows_cons rfl (rows_cons rfl (rows_cons rfl rows_nil)) | exact rows_cons rfl (rows_cons rfl (rows_cons rfl (rows_cons rfl rows_nil))) | exact rows_app (fun _ _ => rfl) rfl | exact rows_app (rows_one rfl) rfl | (refine rows_app2 ?_ (by first | rfl | (simp only [List.length_append, List.length_cons, List.length_nil] <;> omega) | (simp <;> omega)) ?_ rfl <;> (first | exact rows_one rfl | exact (fun _ _ => rfl) | (refine rows_app2 ?_ (by first | rfl | (simp only [List.length_append, List.length_cons, List.length_nil] <;> omega) | (simp <;> omega)) ?_ rfl <;> (first | exact rows_one rfl | exact (fun _ _ => rfl))))))) rfl ?_) | (refine ArgsOK.ref (Ref.sl' (by first | rfl | (simp only [List.length_append, List.length_cons, List.length_nil] <;> omega) | (simp <;> omega)) (by first | exact fun _ _ => rfl | exact rows_snoc rfl | exact rows_nil | exact rows_one rfl | exact rows_two rfl rfl | exact rows_cons rfl (rows_cons rfl (rows_cons rfl rows_nil)) | exact rows_cons rfl (rows_cons rfl (rows_cons rfl (rows_cons rfl rows_nil))) | exact rows_app (fun _ _ => rfl) rfl | exact rows_app (rows_one rfl) rfl | (refine rows_app2 ?_ (by first | rfl | (simp only [List.length_append, List.length_cons, List.length_nil] <;> omega) | (simp <;> omega)) ?_ rfl <;> (first | exact rows_one rfl | exact (fun _ _ => rfl) | (refine rows_app2 ?_ (by first | rfl | (simp only [List.length_append, List.length_cons, List.length_nil] <;> omega) | (simp <;> omega)) ?_ rfl <;> (first | exact rows_one rfl | exact (fun _ _ => rfl))))))) rfl ?_) | (refine ArgsOK.ref (Ref.nil' rfl) rfl ?_))) : ArgsOK l r := h
theorem refX {a x : AV} (h : Ref a x := by repeat' (first | exact Ref.rfl' _ | exact RefL.nil | refine RefL.cons ?_ ?_ | refine Ref.tup ?_ | refine Ref.agg ?_ | exact Ref.own' (by first | rfl | (simp only [List.length_append, List.length_cons, List.length_nil] <;> omega) | (simp <;> omega)) (by first | exact fun _ _ => rfl | exact rows_snoc rfl | exact rows_nil | exact rows_one rfl | exact rows_two rfl rfl | exact rows_cons rfl (rows_cons rfl (rows_cons rfl rows_nil)) | exact rows_cons rfl (rows_cons rfl (rows_cons rfl (rows_cons rfl rows_nil))) | exact rows_app (fun _ _ => rfl) rfl | exact rows_app (rows_one rfl) rfl | (refine rows_app2 ?_ (by first | rfl | (simp only [List.length_append, List.length_cons, List.length_nil] <;> omega) | (simp <;> omega)) ?_ rfl <;> (first | exact rows_one rfl | exact (fun _ _ => rfl) | (refine rows_app2 ?_ (by first | rfl | (simp only [List.length_append, List.length_cons, List.length_nil] <;> omega) | (simp <;> omega)) ?_ rfl <;> (first | exact rows_one rfl | exact (fun _ _ => rfl)))))) | exact Ref.nil' rfl | exact Ref.sl' (by first | rfl | (simp only [List.length_append, List.length_cons, List.length_nil] <;> omega) | (simp <;> omega)) (by first | exact fun _ _ => rfl | exact rows_snoc rfl | exact rows_nil | exact rows_one rfl | exact rows_two rfl rfl | exact rows_cons rfl (rows_cons rfl (rows_cons rfl rows_nil)) | exact rows_cons rfl (rows_cons rfl (rows_cons rfl (rows_cons rfl rows_nil))) | exact rows_app (fun _ _ => rfl) rfl | exact rows_app (rows_one rfl) rfl | (refine rows_app2 ?_ (by first | rfl | (simp only [List.length_append, List.length_cons, List.length_nil] <;> omega) | (simp <;> omega)) ?_ rfl <;> (first | exact rows_one rfl | exact (fun _ _ => rfl) | (refine rows_app2 ?_ (by first | rfl | (simp only [List.length_append, List.length_cons, List.length_nil] <;> omega) | (simp <;> omega)) ?_ rfl <;> (first | exact rows_one rfl | exact (fun _ _ => rfl)))))) | refine Ref.one ?_ rfl)) : Ref a x := h
theorem leRX {m : Nat} {l : List (Option Nat)} {fr fr' : Fr} {R R' : List Reg} (h : LeR m l fr R fr' R' := by (with_reducible apply LeR.mk); (case frm => repeat (first | exact leR_none _ _ _ | (with_reducible exact leR_keep0) | (with_reducible refine leR_over0 ?_) | (with_reducible refine leR_keep ?_ ?_) | (with_reducible refine leR_over ?_ ?_) | exact RefX.st rfl (Ref.rfl' _) rfl | exact RefX.loc rfl rfl | exact RefX.nil rfl rfl | exact RefX.own rfl rfl (by first | rfl | (simp only [List.length_append, List.length_cons, List.length_nil] <;> omega) | (simp <;> omega)) (by first | exact fun _ _ => rfl | exact rows_snoc rfl | exact rows_nil | exact rows_one rfl | exact rows_two rfl rfl | exact rows_cons rfl (rows_cons rfl (rows_cons rfl rows_nil)) | exact rows_cons rfl (rows_cons rfl (rows_cons rfl (rows_cons rfl rows_nil))) | exact rows_app (fun _ _ => rfl) rfl | exact rows_app (rows_one rfl) rfl | (refine rows_app2 ?_ (by first | rfl | (simp only [List.length_append, List.length_cons, List.length_nil] <;> omega) | (simp <;> omega)) ?_ rfl <;> (first | exact rows_one rfl | exact (fun _ _ => rfl) | (refine rows_app2 ?_ (by first | rfl | (simp only [List.length_append, List.length_cons, List.length_nil] <;> omega) | (simp <;> omega)) ?_ rfl <;> (first | exact rows_one rfl | exact (fun _ _ => rfl)))))) | exact RefX.st rfl (Ref.nil' rfl) rfl | exact RefX.sl (by first | rfl | (simp only [List.length_append, List.length_cons, List.length_nil] <;> omega) | (simp <;> omega)) (by first | exact fun _ _ => rfl | exact rows_snoc rfl | exact rows_nil | exact rows_one rfl | exact rows_two rfl rfl | exact rows_cons rfl (rows_cons rfl (rows_cons rfl rows_nil)) | exact rows_cons rfl (rows_cons rfl (rows_cons rfl (rows_cons rfl rows_nil))) | exact rows_app (fun _ _ => rfl) rfl | exact rows_app (rows_one rfl) rfl | (refine rows_app2 ?_ (by first | rfl | (simp only [List.length_append, List.length_cons, List.length_nil] <;> omega) | (simp <;> omega)) ?_ rfl <;> (first | exact rows_one rfl | exact (fun _ _ => rfl) | (refine rows_app2 ?_ (by first | rfl | (simp only [List.length_append, List.length_cons, List.length_nil] <;> omega) | (simp <;> omega)) ?_ rfl <;> (first | exact rows_one rfl | exact (fun _ _ => rfl)))))) | exact RefX.st rfl (Ref.sl' (by first | rfl | (simp only [List.length_append, List.length_cons, List.length_nil] <;> omega) | (simp <;> omega)) (by first | exact fun _ _ => rfl | exact rows_snoc rfl | exact rows_nil | exact rows_one rfl | exact rows_two rfl rfl | exact rows_cons rfl (rows_cons rfl (rows_cons rfl rows_nil)) | exact rows_cons rfl (rows_cons rfl (rows_cons rfl (rows_cons rfl rows_nil))) | exact rows_app (fun _ _ => rfl) rfl | exact rows_app (rows_one rfl) rfl | (refine rows_app2 ?_ (by first | rfl | (simp only [List.length_append, List.length_cons, List.length_nil] <;> omega) | (simp <;> omega)) ?_ rfl <;> (first | exact rows_one rfl | exact (fun _ _ => rfl) | (refine rows_app2 ?_ (by first | rfl | (simp only [List.length_append, List.length_cons, List.length_nil] <;> omega) | (simp <;> omega)) ?_ rfl <;> (first | exact rows_one rfl | exact (fun _ _ => rfl))))))) rfl)); (case reg => repeat (first | (with_reducible refine RegsX.cons ?_ ?_) | exact RegsX.nil | refine RegsX.cons ?_ ?_ | exact RegX.dead | exact RegX.arr rfl rfl (by first | rfl | (simp only [List.length_append, List.length_cons, List.length_nil] <;> omega) | (simp <;> omega)) | exact RegX.nil rfl | exact RegX.same1 rfl rfl rfl | (refine RegX.mat1 rfl rfl ?_; repeat (first | exact RefXL.nil | refine RefXL.cons ?_ ?_ | exact RefX.any _ | exact RefX.st rfl (Ref.rfl' _) rfl | exact RefX.loc rfl rfl | exact RefX.nil rfl rfl | exact RefX.own rfl rfl (by first | rfl | (simp only [List.length_append, List.length_cons, List.length_nil] <;> omega) | (simp <;> omega)) (by first | exact fun _ _ => rfl | exact rows_snoc rfl | exact rows_nil | exact rows_one rfl | exact rows_two rfl rfl | exact rows_cons rfl (rows_cons rfl (rows_cons rfl rows_nil)) | exact rows_cons rfl (rows_cons rfl (rows_cons rfl (rows_cons rfl rows_nil))) | exact rows_app (fun _ _ => rfl) rfl | exact rows_app (rows_one rfl) rfl | (refine rows_app2 ?_ (by first | rfl | (simp only [List.length_append, List.length_cons, List.length_nil] <;> omega) | (simp <;> omega)) ?_ rfl <;> (first | exact rows_one rfl | exact (fun _ _ => rfl) | (refine rows_app2 ?_ (by first | rfl | (simp only [List.length_append, List.length_cons, List.length_nil] <;> omega) | (simp <;> omega)) ?_ rfl <;> (first | exact rows_one rfl | exact (fun _ _ => rfl)))))) | exact RefX.sl (by first | rfl | (simp only [List.length_append, List.length_cons, List.length_nil] <;> omega) | (simp <;> omega)) (by first | exact fun _ _ => rfl | exact rows_snoc rfl | exact rows_nil | exact rows_one rfl | exact rows_two rfl rfl | exact rows_cons rfl (rows_cons rfl (rows_cons rfl rows_nil)) | exact rows_cons rfl (rows_cons rfl (rows_cons rfl (rows_cons rfl rows_nil))) | exact rows_app (fun _ _ => rfl) rfl | exact rows_app (rows_one rfl) rfl | (refine rows_app2 ?_ (by first | rfl | (simp only [List.length_append, List.length_cons, List.length_nil] <;> omega) | (simp <;> omega)) ?_ rfl <;> (first | exact rows_one rfl | exact (fun _ _ => rfl) | (refine rows_app2 ?_ (by first | rfl | (simp only [List.length_append, List.length_cons, List.length_nil] <;> omega) | (simp <;> omega)) ?_ rfl <;> (first | exact rows_one rfl | exact (fun _ _ => rfl)))))))))); (case inj => rfl); (case pin => rfl)) : LeR m l fr R fr' R' := h
theorem refXX {l : List (Option Nat)} {R' : List Reg} {a x : AV} (h : RefX l R' a x := by first | exact RefX.st rfl (Ref.rfl' _) rfl | exact RefX.loc rfl rfl | exact RefX.own rfl rfl (by first | rfl | (simp only [List.length_append, List.length_cons, List.length_nil] <;> omega) | (simp <;> omega)) (by first | exact fun _ _ => rfl | exact rows_snoc rfl | exact rows_nil | exact rows_one rfl | exact rows_two rfl rfl | exact rows_cons rfl (rows_cons rfl (rows_cons rfl rows_nil)) | exact rows_cons rfl (rows_cons rfl (rows_cons rfl (rows_cons rfl rows_nil))) | exact rows_app (fun _ _ => rfl) rfl | exact rows_app (rows_one rfl) rfl | (refine rows_app2 ?_ (by first | rfl | (simp only [List.length_append, List.length_cons, List.length_nil] <;> omega) | (simp <;> omega)) ?_ rfl <;> (first | exact rows_one rfl | exact (fun _ _ => rfl) | (refine rows_app2 ?_ (by first | rfl | (simp only [List.length_append, List.length_cons, List.length_nil] <;> omega) | (simp <;> omega)) ?_ rfl <;> (first | exact rows_one rfl | exact (fun _ _ => rfl)))))) | exact RefX.nil rfl rfl | exact RefX.rfx refX rfl) : RefX l R' a x := h
theorem handsX {s : Nat → Nat} {Rc : List Reg} {sl : List Nat} {R : List Reg} (h : HandsL s Rc sl R := by repeat (first | exact HandsL.nil | refine HandsL.cons rfl ?_)) : HandsL s Rc sl R := h
theorem argsMX {m : Nat} {s : Nat → Nat} {l r : List AV} (h : ArgsM m s l r := by repeat (first | exact ArgsM.nil | (refine ArgsM.ren rfl rfl ?_) | (refine ArgsM.ref refX rfl ?_))) : ArgsM m s l r := h
theorem sameX {R R' : List Reg} (h : SameR R R' := by repeat (first | exact SameR.nil | refine SameR.mat ?_ | refine SameR.dead ?_)) : SameR R R' := h
theorem bdX {m : Nat} {R : List Reg} (h : BdR m R := by repeat (first | exact BdR.nil | refine BdR.dead ?_ | refine BdR.arr ?_ | refine BdR.mat (fun _ _ => rfl) ?_)) : ∀ r ∈ R, ∀ n sz row, r = .mat n sz row → ∀ j, j < n → bdA.bdL m (row j) = true := h.all
theorem cmpX {G : Glo} {fr : Fr} {o : Op} {p : Prop} (h : CmpA G fr o p := by first | exact CmpA.lss rfl rfl | exact CmpA.leq rfl rfl | exact CmpA.gtr rfl rfl | exact CmpA.geq rfl rfl | exact CmpA.eql rfl rfl | exact CmpA.neq rfl rfl | exact CmpA.seq rfl rfl | exact CmpA.sne rfl rfl) : CmpA G fr o p := h
theorem valX {tys : Tys} {G : Glo} {fr : Fr} {o : Op} {x : AV} (h : ValA tys G fr o x := by first | exact ValA.bin (BinA.mul rfl rfl) | exact ValA.bin (BinA.add8 rfl rfl) | exact ValA.bin (BinA.sub8 rfl rfl) | exact ValA.bin (BinA.mul8 rfl rfl) | exact ValA.bin (BinA.addK rfl rfl) | exact ValA.bin (BinA.subK rfl rfl) | exact ValA.bin (BinA.mulK rfl rfl) | exact ValA.bin (BinA.bits rfl rfl rfl) | exact ValA.bin (BinA.shl rfl rfl (by first | assumption | omega)) | exact ValA.bin (BinA.shr rfl rfl (by first | assumption | omega)) | exact ValA.bin (BinA.quo64 rfl rfl (by first | assumption | decide)) | exact ValA.bin (BinA.quo rfl rfl (by first | assumption | decide)) | exact ValA.bin (BinA.rem rfl rfl (by first | assumption | decide)) | exact ValA.bin (BinA.cat rfl rfl (by first | assumption | omega)) | exact ValA.bin (BinA.neg rfl) | exact ValA.idxS rfl rfl rfl (by first | assumption | omega) (by first | assumption | omega) | exact ValA.beqB rfl rfl rfl | exact ValA.bneB rfl rfl rfl) : ValA tys G fr o x := h
end Go.Proofs.Ytopbcamlagdieaa.PStats
set_option linter.unusedVariables false
set_option linter.unusedSimpArgs false
namespace Go.Proofs.Ytopbcamlagdieaa.Abs
open Go.RowKit Go.Deep
/-- Cells that stand for abstract values, in a whole world. -/
structure RepL (w : World) (l : List AV) (vs : List Value) : Prop where
  len : vs.length = l.length
  one : ∀ v ∈ vs, v.oneCell' = true
  rep : ∀ (i : Nat) (a : AV) (v : Value), l[i]? = some a → vs[i]? = some v → Rep0 (fun ad => w.cell? ad) a v
theorem RepL.single {w : World} {a : AV} {v : Value} (h : Rep0 (fun ad => w.cell? ad) a v) (h1 : v.oneCell' = true) : RepL w [a] [v] :=
  ⟨rfl, fun u hu => by simp at hu; subst hu; exact h1, fun i x u p q => by
    cases i with
    | zero => simp at p q; subst p; subst q; exact h
    | succ i => simp at p⟩
theorem RepL.append {w : World} {l l' : List AV} {vs vs' : List Value} (h : RepL w l vs) (t : RepL w l' vs') : RepL w (l ++ l') (vs ++ vs') :=
  ⟨by simp [h.len, t.len], fun u hu => (List.mem_append.1 hu).elim (h.one u) (t.one u), fun i a v p q => by
    by_cases hi : i < l.length
    · rw [List.getElem?_append_left hi] at p
      rw [List.getElem?_append_left (by rw [h.len]; exact hi)] at q
      exact h.rep i a v p q
    · rw [List.getElem?_append_right (by omega)] at p
      rw [List.getElem?_append_right (by rw [h.len]; omega), h.len] at q
      exact t.rep _ a v p q⟩
/-- Cells that are read as data of a type stand for an element, of which F holds. -/
def RaT {α : Type} (e : α → List AV) (F : α → Prop) (w : World) (cs : List Value) : Prop := ∃ a : α, RepL w (e a) cs ∧ F a
def Ra (P : Program) {α : Type} (e : α → List AV) (F : α → Prop) (t : TypeId) : Prop :=
  ∀ (H : Type) (enc : TypeId × Value → H) (w : World) (fuel : Nat) (cs : List Value) (x : DataW H × List MemPlace), DataW.trod enc P w 0 (fun _ => true) true fuel t cs = some x → RaT e F w cs
section
variable {P : Program} {α β : Type} {d : α → List AV} {d2 : β → List AV} {F : α → Prop} {F2 : β → Prop} {t e : TypeId} {w : World} {cs : List Value}
theorem ra_int {k : IntKind} (ht : P.underlying t = some (.int k)) : Ra P (eInt k) (fun n => (Lit.int k n).wf = true) t := by
  intro H enc w fuel cs x h
  obtain ⟨n, rfl, _, hw⟩ := DataW.trod_int ht h
  exact ⟨n, .single (.imm _) rfl, hw⟩
theorem ra_string (ht : P.underlying t = some .string) : Ra P eStr (fun s => s.size ≤ maxLen) t := by
  intro H enc w fuel cs x h
  obtain ⟨n, rfl, _, hw⟩ := DataW.trod_string ht h
  exact ⟨n, .single (.imm _) rfl, hw⟩
theorem ra_slice {sz : Nat} {z : α} (ht : P.underlying t = some (.slice e)) (hC : P.cellsOf e = sz) (hl : ∀ a, (d a).length = sz) (hr : Ra P d F e) : Ra P (fun l : List α => [AV.sl l.length sz (rowsE d z l)]) (fun xs => xs.length ≤ maxLen ∧ ∀ x ∈ xs, F x) t := by
  intro H enc w fuel cs x h
  rcases open_slice ht h with ⟨rfl, _⟩ | ⟨a, len, cap, m, n, D, Pl, rfl, _, hlen, hm, hmm, _, hi⟩
  · exact ⟨[], .single (.sl 0 sz _ none 0 default (fun _ => []) (Nat.le_refl _) (fun h => by omega) (fun j h => by omega) (fun j h => by omega) (fun j i v h => by omega) (fun j i a v h => by omega)) rfl, by simp [maxLen], fun x hx => by simp at hx⟩
  · have hcap : m = cap := by rw [hmm]; rfl
    have hex : ∀ i : _root_.Fin len, ∃ (p : α × List Value), RepL w (d p.1) p.2 ∧ F p.1 ∧ ∀ j u, p.2[j]? = some u → w.cell? (a.add (i.val * sz + j)) = some u := by
      intro i
      obtain ⟨c, hc, htr⟩ := hi i.val (by omega)
      obtain ⟨p, hp, hF⟩ := hr H enc w n c _ htr
      obtain ⟨_, hcl, hat⟩ := World.cells?_some hc
      refine ⟨(p, c), hp, hF, fun j u hj => ?_⟩
      have hjl : j < c.length := (List.getElem?_eq_some_iff.1 hj).1
      have := hat j (by omega)
      rw [hj, hC, Go.Deep.add_add] at this
      exact this
    let f : _root_.Fin len → α × List Value := fun i => Classical.choose (hex i)
    have hf : ∀ i : _root_.Fin len, RepL w (d (f i).1) (f i).2 ∧ F (f i).1 ∧ ∀ j u, (f i).2[j]? = some u → w.cell? (a.add (i.val * sz + j)) = some u := fun i => Classical.choose_spec (hex i)
    have hlen2 : (List.ofFn fun i => (f i).1).length = len := by simp
    have hget : ∀ j (hj : j < len), (List.ofFn fun i => (f i).1).getD j z = (f ⟨j, hj⟩).1 := fun j hj => by
      rw [List.getD_eq_getElem?_getD, List.getElem?_eq_getElem (by simpa using hj), Option.getD_some, List.getElem_ofFn]
    refine ⟨List.ofFn fun i => (f i).1, .single ?_ rfl, by omega, fun x hx => ?_⟩
    · rw [hlen2]
      refine .sl len sz _ (some a) cap a (fun j => if hj : j < len then (f ⟨j, hj⟩).2 else []) (by omega) (fun _ => rfl) (fun j hj => ⟨hl _, ?_⟩) (fun j hj v hv => ?_) (fun j i v hj hv => ?_) (fun j i x v hj hx hv => ?_)
      · rw [dif_pos hj, (hf ⟨j, hj⟩).1.len, hl]
      · rw [dif_pos hj] at hv; exact (hf ⟨j, hj⟩).1.one v hv
      · rw [dif_pos hj] at hv; exact (hf ⟨j, hj⟩).2.2 i v hv
      · rw [dif_pos hj] at hv
        unfold rowsE at hx
        rw [hget j hj] at hx
        exact (hf ⟨j, hj⟩).1.rep i x v hx hv
    · obtain ⟨i, rfl⟩ := List.mem_ofFn.1 hx
      exact (hf i).2.1
/-! A struct: its fields' cells, one behind the other. -/
theorem rat_field {H : Type} {enc : TypeId × Value → H} {n : Nat} {xs : List (DataW H × List MemPlace)} {fs : Array Field} (hl : xs.length = fs.size)
    (hf : ∀ (i : Nat) (f : Field), fs[i]? = some f → DataW.trod enc P w 0 (fun _ => true) true n f.type ((cs.drop f.offset).take (P.cellsOf f.type)) = xs[i]?)
    (i : Nat) (f : Field) (hi : fs[i]? = some f) (o s : Nat) (ho : f.offset = o) (hs : P.cellsOf f.type = s) (hr : Ra P d F f.type) : RaT d F w ((cs.drop o).take s) := by
  have hil : i < fs.size := (Array.getElem?_eq_some_iff.1 hi).1
  have h := hf i f hi
  rw [List.getElem?_eq_getElem (by omega), ho, hs] at h
  exact hr H enc w n _ _ h
theorem rat_cons (o s : Nat) (h1 : RaT d F w ((cs.drop o).take s)) (h2 : RaT d2 F2 w (cs.drop (o + s))) : RaT (fun x : α × β => d x.1 ++ d2 x.2) (fun x => F x.1 ∧ F2 x.2) w (cs.drop o) := by
  obtain ⟨a, ha, hF⟩ := h1
  obtain ⟨b, hb, hG⟩ := h2
  refine ⟨(a, b), ?_, hF, hG⟩
  have := ha.append hb
  rw [← List.drop_drop, List.take_append_drop] at this
  exact this
theorem rat_last (o s : Nat) (hl : cs.length = o + s) (h1 : RaT d F w ((cs.drop o).take s)) : RaT d F w (cs.drop o) := by
  rw [List.take_of_length_le (by rw [List.length_drop]; omega)] at h1
  exact h1
theorem rat_iso {e : β → List AV} {F' : β → Prop} (g : α → β) (he : ∀ a, e (g a) = d a) (hF : ∀ a, F a → F' (g a)) (h : RaT d F w cs) : RaT e F' w cs := by
  obtain ⟨a, ha, h⟩ := h
  exact ⟨g a, by rw [he]; exact ha, hF a h⟩
end
/-- A law's answer, from what its parameters are read as. -/
theorem CallOK.law {P : Program} {G : Glo} {f : FuncId} {args : List AV} (h : CallOK P G f args (.imm (.bool true))) {w : World} {vs : List Value} (hg : GloOK G (fun ad => w.cell? ad)) (hl : vs.length = args.length) (hv : ∀ (i : Nat) (a : AV) (v : Value), args[i]? = some a → vs[i]? = some v → Rep0 (fun ad => w.cell? ad) a v) :
    Calls P f vs.toArray w fun e w' => e = .returned (.bool true) ∧ Below w.heap.size w w' := by
  refine (h.run w (fun ad => w.cell? ad) vs (fun ad v h => h) hg hl hv).mono ?_
  rintro e w' ⟨v, V', rfl, hgr, hx⟩
  obtain rfl := hx.imm_inv
  exact ⟨rfl, hgr.bel.below⟩
theorem arg_agg {w : World} {l : List AV} {cs : Array Value} (h : RepL w l cs.toList) : Rep0 (fun ad => w.cell? ad) (.agg l) (.agg cs) := .agg l cs.toList h.len h.one h.rep
theorem arg_one {w : World} {a : AV} {v : Value} (h : RepL w [a] [v]) : Rep0 (fun ad => w.cell? ad) a v := h.rep 0 a v rfl rfl
theorem Rep0.sl_len {V : View} {n m sz : Nat} {row : Nat → List AV} {A : Option Addr} {c : Nat} (h : Rep0 V (.sl n sz row) (.slice A m c)) : m = n := by
  obtain ⟨_, _, _, _, e, _⟩ := h.sl_inv
  injection e
theorem reps_nil {V : View} : ∀ (i : Nat) (a : AV) (v : Value), ([] : List AV)[i]? = some a → ([] : List Value)[i]? = some v → Rep0 V a v := fun i a v h => by simp at h
theorem reps_cons {V : View} {a : AV} {v : Value} {l : List AV} {vs : List Value} (h : Rep0 V a v) (t : ∀ (i : Nat) (a : AV) (v : Value), l[i]? = some a → vs[i]? = some v → Rep0 V a v) : ∀ (i : Nat) (b : AV) (u : Value), (a :: l)[i]? = some b → (v :: vs)[i]? = some u → Rep0 V b u
  | 0, b, u, p, q => by simp at p q; subst p; subst q; exact h
  | i + 1, b, u, p, q => t i b u (by simpa using p) (by simpa using q)
end Go.Proofs.Ytopbcamlagdieaa.Abs
set_option linter.unusedVariables false
set_option linter.unusedSimpArgs false
namespace Go.Proofs.Ytopbcamlagdieaa.PStats
open Go.RowKit Go.Proofs.YtopbcamlagdieaaW.PrintWords Go.Proofs.YtopbcamlagdieaaW.PrintLast Go.Proofs.YtopbcamlagdieaaW.PrintMore Go.Proofs.Ytopbcamlagdieaa.Abs
open Go.Deep
structure S34 where
  f0 : Int
  f1 : Int
  f2 : List (S56)
def z34 : S34 := ⟨(0 : Int), (0 : Int), ([] : List (S56))⟩
def eS34 (x : S34) : List AV := [.imm (.int .i64 x.f0), .imm (.int .i64 x.f1), vS56 x.f2]
def ok25 (x : S25) : Prop := (fun n : Int => (Lit.int .i64 n).wf = true) x.f0 ∧ (fun n : Int => (Lit.int .i64 n).wf = true) x.f1 ∧ (fun n : Int => (Lit.int .i64 n).wf = true) x.f2 ∧ (fun n : Int => (Lit.int .i64 n).wf = true) x.f3 ∧ (fun n : Int => (Lit.int .i64 n).wf = true) x.f4 ∧ (fun n : Int => (Lit.int .i64 n).wf = true) x.f5 ∧ (fun n : Int => (Lit.int .i64 n).wf = true) x.f6
set_option maxRecDepth 100000 in
theorem ra25 : Ra Try.prog eS25 ok25 25 := by
  intro H enc w fuel cs x h
  obtain ⟨xs, n, _, _, hl, hlen, hf⟩ := DataW.trod_struct Try.underlying25 h
  have hC : Try.prog.cellsOf 25 = 7 := by kernel_rfl
  rw [hC] at hl
  exact rat_iso (g := fun p : Int × Int × Int × Int × Int × Int × Int => (⟨p.1, p.2.1, p.2.2.1, p.2.2.2.1, p.2.2.2.2.1, p.2.2.2.2.2.1, p.2.2.2.2.2.2⟩ : S25)) (fun a => rfl) (fun a h => h) (rat_cons 0 1 (rat_field hlen hf 0 _ rfl 0 1 rfl (by kernel_rfl) (ra_int Try.underlying3)) (rat_cons 1 1 (rat_field hlen hf 1 _ rfl 1 1 rfl (by kernel_rfl) (ra_int Try.underlying3)) (rat_cons 2 1 (rat_field hlen hf 2 _ rfl 2 1 rfl (by kernel_rfl) (ra_int Try.underlying3)) (rat_cons 3 1 (rat_field hlen hf 3 _ rfl 3 1 rfl (by kernel_rfl) (ra_int Try.underlying3)) (rat_cons 4 1 (rat_field hlen hf 4 _ rfl 4 1 rfl (by kernel_rfl) (ra_int Try.underlying3)) (rat_cons 5 1 (rat_field hlen hf 5 _ rfl 5 1 rfl (by kernel_rfl) (ra_int Try.underlying3)) (rat_last 6 1 (by omega) (rat_field hlen hf 6 _ rfl 6 1 rfl (by kernel_rfl) (ra_int Try.underlying3)))))))))
def ok76 (x : S76) : Prop := (fun n : Int => (Lit.int .i64 n).wf = true) x.f0 ∧ (fun n : Int => (Lit.int .i64 n).wf = true) x.f1
set_option maxRecDepth 100000 in
theorem ra76 : Ra Try.prog eS76 ok76 76 := by
  intro H enc w fuel cs x h
  obtain ⟨xs, n, _, _, hl, hlen, hf⟩ := DataW.trod_struct Try.underlying76 h
  have hC : Try.prog.cellsOf 76 = 2 := by kernel_rfl
  rw [hC] at hl
  exact rat_iso (g := fun p : Int × Int => (⟨p.1, p.2⟩ : S76)) (fun a => rfl) (fun a h => h) (rat_cons 0 1 (rat_field hlen hf 0 _ rfl 0 1 rfl (by kernel_rfl) (ra_int Try.underlying3)) (rat_last 1 1 (by omega) (rat_field hlen hf 1 _ rfl 1 1 rfl (by kernel_rfl) (ra_int Try.underlying3))))
def ok65 (x : S65) : Prop := (fun s : ByteArray => s.size ≤ maxLen) x.f0 ∧ (fun n : Int => (Lit.int .i64 n).wf = true) x.f1
set_option maxRecDepth 100000 in
theorem ra65 : Ra Try.prog eS65 ok65 65 := by
  intro H enc w fuel cs x h
  obtain ⟨xs, n, _, _, hl, hlen, hf⟩ := DataW.trod_struct Try.underlying65 h
  have hC : Try.prog.cellsOf 65 = 2 := by kernel_rfl
  rw [hC] at hl
  exact rat_iso (g := fun p : ByteArray × Int => (⟨p.1, p.2⟩ : S65)) (fun a => rfl) (fun a h => h) (rat_cons 0 1 (rat_field hlen hf 0 _ rfl 0 1 rfl (by kernel_rfl) (ra_string Try.underlying9)) (rat_last 1 1 (by omega) (rat_field hlen hf 1 _ rfl 1 1 rfl (by kernel_rfl) (ra_int Try.underlying3))))
def ok60 (x : S60) : Prop := (fun n : Int => (Lit.int .i64 n).wf = true) x.f0 ∧ (fun n : Int => (Lit.int .i64 n).wf = true) x.f1 ∧ (fun xs : List (S76) => xs.length ≤ maxLen ∧ ∀ x ∈ xs, ok76 x) x.f2 ∧ (fun xs : List (S65) => xs.length ≤ maxLen ∧ ∀ x ∈ xs, ok65 x) x.f3 ∧ (fun n : Int => (Lit.int .i64 n).wf = true) x.f4 ∧ (fun n : Int => (Lit.int .i64 n).wf = true) x.f5 ∧ (fun n : Int => (Lit.int .i64 n).wf = true) x.f6
set_option maxRecDepth 100000 in
theorem ra60 : Ra Try.prog eS60 ok60 60 := by
  intro H enc w fuel cs x h
  obtain ⟨xs, n, _, _, hl, hlen, hf⟩ := DataW.trod_struct Try.underlying60 h
  have hC : Try.prog.cellsOf 60 = 7 := by kernel_rfl
  rw [hC] at hl
  exact rat_iso (g := fun p : Int × Int × List (S76) × List (S65) × Int × Int × Int => (⟨p.1, p.2.1, p.2.2.1, p.2.2.2.1, p.2.2.2.2.1, p.2.2.2.2.2.1, p.2.2.2.2.2.2⟩ : S60)) (fun a => rfl) (fun a h => h) (rat_cons 0 1 (rat_field hlen hf 0 _ rfl 0 1 rfl (by kernel_rfl) (ra_int Try.underlying3)) (rat_cons 1 1 (rat_field hlen hf 1 _ rfl 1 1 rfl (by kernel_rfl) (ra_int Try.underlying3)) (rat_cons 2 1 (rat_field hlen hf 2 _ rfl 2 1 rfl (by kernel_rfl) (ra_slice (d := eS76) (sz := 2) (z := z76) Try.underlying57 (by kernel_rfl) (fun _ => rfl) ra76)) (rat_cons 3 1 (rat_field hlen hf 3 _ rfl 3 1 rfl (by kernel_rfl) (ra_slice (d := eS65) (sz := 2) (z := z65) Try.underlying58 (by kernel_rfl) (fun _ => rfl) ra65)) (rat_cons 4 1 (rat_field hlen hf 4 _ rfl 4 1 rfl (by kernel_rfl) (ra_int Try.underlying3)) (rat_cons 5 1 (rat_field hlen hf 5 _ rfl 5 1 rfl (by kernel_rfl) (ra_int Try.underlying3)) (rat_last 6 1 (by omega) (rat_field hlen hf 6 _ rfl 6 1 rfl (by kernel_rfl) (ra_int Try.underlying3)))))))))
def ok56 (x : S56) : Prop := (fun xs : List (S60) => xs.length ≤ maxLen ∧ ∀ x ∈ xs, ok60 x) x.f0
set_option maxRecDepth 100000 in
theorem ra56 : Ra Try.prog eS56 ok56 56 := by
  intro H enc w fuel cs x h
  obtain ⟨xs, n, _, _, hl, hlen, hf⟩ := DataW.trod_struct Try.underlying56 h
  have hC : Try.prog.cellsOf 56 = 1 := by kernel_rfl
  rw [hC] at hl
  exact rat_iso (g := fun p : List (S60) => (⟨p⟩ : S56)) (fun a => rfl) (fun a h => h) (rat_last 0 1 (by omega) (rat_field hlen hf 0 _ rfl 0 1 rfl (by kernel_rfl) (ra_slice (d := eS60) (sz := 7) (z := z60) Try.underlying54 (by kernel_rfl) (fun _ => rfl) ra60)))
def ok34 (x : S34) : Prop := (fun n : Int => (Lit.int .i64 n).wf = true) x.f0 ∧ (fun n : Int => (Lit.int .i64 n).wf = true) x.f1 ∧ (fun xs : List (S56) => xs.length ≤ maxLen ∧ ∀ x ∈ xs, ok56 x) x.f2
set_option maxRecDepth 100000 in
theorem ra34 : Ra Try.prog eS34 ok34 34 := by
  intro H enc w fuel cs x h
  obtain ⟨xs, n, _, _, hl, hlen, hf⟩ := DataW.trod_struct Try.underlying34 h
  have hC : Try.prog.cellsOf 34 = 3 := by kernel_rfl
  rw [hC] at hl
  exact rat_iso (g := fun p : Int × Int × List (S56) => (⟨p.1, p.2.1, p.2.2⟩ : S34)) (fun a => rfl) (fun a h => h) (rat_cons 0 1 (rat_field hlen hf 0 _ rfl 0 1 rfl (by kernel_rfl) (ra_int Try.underlying3)) (rat_cons 1 1 (rat_field hlen hf 1 _ rfl 1 1 rfl (by kernel_rfl) (ra_int Try.underlying3)) (rat_last 2 1 (by omega) (rat_field hlen hf 2 _ rfl 2 1 rfl (by kernel_rfl) (ra_slice (d := eS56) (sz := 1) (z := z56) Try.underlying32 (by kernel_rfl) (fun _ => rfl) ra56)))))
def ok68 (x : S68) : Prop := (fun n : Int => (Lit.int .i64 n).wf = true) x.f0 ∧ (fun n : Int => (Lit.int .i64 n).wf = true) x.f1 ∧ (fun n : Int => (Lit.int .i64 n).wf = true) x.f2 ∧ (fun s : ByteArray => s.size ≤ maxLen) x.f3
set_option maxRecDepth 100000 in
theorem ra68 : Ra Try.prog eS68 ok68 68 := by
  intro H enc w fuel cs x h
  obtain ⟨xs, n, _, _, hl, hlen, hf⟩ := DataW.trod_struct Try.underlying68 h
  have hC : Try.prog.cellsOf 68 = 4 := by kernel_rfl
  rw [hC] at hl
  exact rat_iso (g := fun p : Int × Int × Int × ByteArray => (⟨p.1, p.2.1, p.2.2.1, p.2.2.2⟩ : S68)) (fun a => rfl) (fun a h => h) (rat_cons 0 1 (rat_field hlen hf 0 _ rfl 0 1 rfl (by kernel_rfl) (ra_int Try.underlying3)) (rat_cons 1 1 (rat_field hlen hf 1 _ rfl 1 1 rfl (by kernel_rfl) (ra_int Try.underlying3)) (rat_cons 2 1 (rat_field hlen hf 2 _ rfl 2 1 rfl (by kernel_rfl) (ra_int Try.underlying3)) (rat_last 3 1 (by omega) (rat_field hlen hf 3 _ rfl 3 1 rfl (by kernel_rfl) (ra_string Try.underlying9))))))
end Go.Proofs.Ytopbcamlagdieaa.PStats
set_option linter.unusedVariables false
set_option linter.unusedSimpArgs false
namespace Go.Proofs.Ytopbcamlagdieaa.PStats
open Go.RowKit Go.Proofs.YtopbcamlagdieaaW.PrintWords Go.Proofs.YtopbcamlagdieaaW.PrintLast Go.Proofs.YtopbcamlagdieaaW.PrintMore Go.Proofs.Ytopbcamlagdieaa.Abs
/-! ### boarderlaw13_Great: function 19 -/
mutual
def boarderlaw13_Great.l0 : Nat → Int → Int → Int → List (S56) → Option (Bool)
  | 0, _, _, _, _ => none
  | k + 1, x3, x353000, x353001, x353002 => if x3 < (x353002.length : Int) then (if 0 ≤ x3 then (if (((rd_T56 x353002 x3).f0).length : Int) > 10 then (some true) else (boarderlaw13_Great.l1 k x3 0 x353000 x353001 x353002)) else (none)) else (some false)
def boarderlaw13_Great.l1 : Nat → Int → Int → Int → Int → List (S56) → Option (Bool)
  | 0, _, _, _, _, _ => none
  | k + 1, x3, x4, x353000, x353001, x353002 => if 0 ≤ x3 then (if x3 < (x353002.length : Int) then (if x4 < (((rd_T56 x353002 x3).f0).length : Int) then (if 0 ≤ x4 then (if (((rd_T60 ((rd_T56 x353002 x3).f0) x4).f2).length : Int) > 20 then (boarderlaw13_Great.j2 k x3 x4 true x353000 x353001 x353002 ((rd_T60 ((rd_T56 x353002 x3).f0) x4).f0) ((rd_T60 ((rd_T56 x353002 x3).f0) x4).f1) ((rd_T60 ((rd_T56 x353002 x3).f0) x4).f2) ((rd_T60 ((rd_T56 x353002 x3).f0) x4).f3) ((rd_T60 ((rd_T56 x353002 x3).f0) x4).f4) ((rd_T60 ((rd_T56 x353002 x3).f0) x4).f5) ((rd_T60 ((rd_T56 x353002 x3).f0) x4).f6)) else (boarderlaw13_Great.j2 k x3 x4 (decide ((((rd_T60 ((rd_T56 x353002 x3).f0) x4).f3).length : Int) > 20)) x353000 x353001 x353002 ((rd_T60 ((rd_T56 x353002 x3).f0) x4).f0) ((rd_T60 ((rd_T56 x353002 x3).f0) x4).f1) ((rd_T60 ((rd_T56 x353002 x3).f0) x4).f2) ((rd_T60 ((rd_T56 x353002 x3).f0) x4).f3) ((rd_T60 ((rd_T56 x353002 x3).f0) x4).f4) ((rd_T60 ((rd_T56 x353002 x3).f0) x4).f5) ((rd_T60 ((rd_T56 x353002 x3).f0) x4).f6))) else (none)) else (boarderlaw13_Great.l0 k (wrap64 (x3 + 1)) x353000 x353001 x353002)) else (none)) else (none)
def boarderlaw13_Great.j2 : Nat → Int → Int → Bool → Int → Int → List (S56) → Int → Int → List (S76) → List (S65) → Int → Int → Int → Option (Bool)
  | 0, _, _, _, _, _, _, _, _, _, _, _, _, _ => none
  | k + 1, x3, x4, x55, x353000, x353001, x353002, x358000, x358001, x358002, x358003, x358004, x358005, x358006 => if x55 = true then (some true) else (boarderlaw13_Great.l2 k x3 x4 0 x353000 x353001 x353002 x358000 x358001 x358002 x358003 x358004 x358005 x358006)
def boarderlaw13_Great.l2 : Nat → Int → Int → Int → Int → Int → List (S56) → Int → Int → List (S76) → List (S65) → Int → Int → Int → Option (Bool)
  | 0, _, _, _, _, _, _, _, _, _, _, _, _, _ => none
  | k + 1, x3, x4, x6, x353000, x353001, x353002, x358000, x358001, x358002, x358003, x358004, x358005, x358006 => if x6 < (x358003.length : Int) then (if 0 ≤ x6 then (if (((rd_T65 x358003 x6).f0).size : Int) > 1000 then (some true) else (boarderlaw13_Great.l2 k x3 x4 (wrap64 (x6 + 1)) x353000 x353001 x353002 x358000 x358001 x358002 x358003 x358004 x358005 x358006)) else (none)) else (boarderlaw13_Great.l1 k x3 (wrap64 (x4 + 1)) x353000 x353001 x353002)
end
def boarderlaw13_Great.f (k : Nat) (a0_0 : Int) (a0_1 : Int) (l0_2 : List (S56)) : Option (Bool) := if (l0_2.length : Int) > 10 then (some true) else (boarderlaw13_Great.l0 k 0 a0_0 a0_1 l0_2)
noncomputable def boarderlaw13_Great.cx : Cx := ⟨Try.prog, tys, glo, 71, Try.f19, [.tmp 2], 0⟩
set_option maxHeartbeats 16000000 in
set_option maxRecDepth 100000 in
theorem boarderlaw13_Great.ok {k : Nat} {a0_0 : Int} {a0_1 : Int} {l0_2 : List (S56)} {r0 : Bool} (H : boarderlaw13_Great.f k a0_0 a0_1 l0_2 = some r0) : CallOK Try.prog glo 19 [.agg [.imm (.int .i64 a0_0), .imm (.int .i64 a0_1), vS56 l0_2]] (.imm (.bool r0)) := by
  unfold boarderlaw13_Great.f at H
  refine CallOK.of (c := boarderlaw13_Great.cx) Try.func19 (show (boarderlaw13_Great.cx).fn.body = some _ from rfl) rfl rfl (Nat.le_of_ble_eq_true rfl) rfl ?_
  repeat' (first
    | ((with_reducible have hJ : boarderlaw13_Great.j2 k _ _ _ _ _ _ _ _ _ _ _ _ _ = some _ := H); clear hJ; (rcases k with _ | k); (rw [boarderlaw13_Great.j2] at H; cases H); (rw [boarderlaw13_Great.j2] at H))
    | ((with_reducible have hJ : boarderlaw13_Great.j2 k0 _ _ _ _ _ _ _ _ _ _ _ _ _ = some _ := H); clear hJ; (rcases k0 with _ | k0); (rw [boarderlaw13_Great.j2] at H; cases H); (rw [boarderlaw13_Great.j2] at H))
    | ((with_reducible have hJ : boarderlaw13_Great.j2 k1 _ _ _ _ _ _ _ _ _ _ _ _ _ = some _ := H); clear hJ; (rcases k1 with _ | k1); (rw [boarderlaw13_Great.j2] at H; cases H); (rw [boarderlaw13_Great.j2] at H))
    | ((with_reducible have hJ : boarderlaw13_Great.j2 k2 _ _ _ _ _ _ _ _ _ _ _ _ _ = some _ := H); clear hJ; (rcases k2 with _ | k2); (rw [boarderlaw13_Great.j2] at H; cases H); (rw [boarderlaw13_Great.j2] at H))
    | ((with_reducible replace H := some_ite H); obtain ⟨_, H⟩ := H)
    | (with_reducible replace H := true_ite H)
    | (with_reducible replace H := false_ite H)
    | ((with_reducible have hb := bool_ite H); clear H; rcases hb with ⟨e_, H⟩ | ⟨e_, H⟩ <;> subst e_)
    | ((with_reducible apply ROps.pure); (case hop => rfl); (case hw => rfl); (case hdst => rfl); (case hd => rfl))
    | (with_reducible apply ROps.nil)
    | (with_reducible apply Runs.seq)
    | (with_reducible apply Runs.region tysOK)
    | (with_reducible apply Runs.block)
    | (with_reducible apply Runs.skip)
    | (with_reducible apply Runs.inBlock)
    | (with_reducible apply Runs.scope)
    | (with_reducible apply Runs.inScope)
    | (with_reducible apply Runs.label)
    | ((with_reducible apply Runs.condT); (case ho => rfl))
    | ((with_reducible apply Runs.condF); (case ho => rfl))
    | ((with_reducible apply Runs.exit); (case he => rfl))
    | ((with_reducible apply ROps.store); (case hop => rfl); (case hp => rfl); (case hR => rfl); (case hc => rfl); (case hl => first | (dsimp only [setR_one, setR, Nat.beq, cond]; done) | (dsimp only [setR_one, setR, Nat.beq, cond]; rfl) | rfl); (case hl' => first | (dsimp only [List.take, List.drop, List.append, List.nil_append, List.cons_append, List.map, List.length, Nat.add]; rfl) | rfl); (case hw => rfl); (all_goals try rfl))
    | ((with_reducible apply ROps.cmp); (case hop => exact cmpX); (case hw => rfl); (case hdst => rfl); (case hd => rfl); (all_goals (intro h; first | (replace H := ite_pos_ h H) | (replace H := ite_neg_ h H) | (replace H := dec_pos h H) | (replace H := dec_neg h H) | (replace H := dec_t h H) | (replace H := dec_f h H) | (replace H := ite_pos_ (Decidable.not_not.1 h) H) | ((try simp only [rd_T56, rd_T60, rd_T65, rdOf] at h); (try simp only [rd_T56, rd_T60, rd_T65, rdOf] at H); (rw [decide_eq_true h] at H)) | ((try simp only [rd_T56, rd_T60, rd_T65, rdOf] at h); (try simp only [rd_T56, rd_T60, rd_T65, rdOf] at H); (rw [decide_eq_false h] at H)) | ((try simp only [rd_T56, rd_T60, rd_T65, rdOf] at h); (try simp only [rd_T56, rd_T60, rd_T65, rdOf] at H); (rw [if_pos h] at H)) | ((try simp only [rd_T56, rd_T60, rd_T65, rdOf] at h); (try simp only [rd_T56, rd_T60, rd_T65, rdOf] at H); (rw [if_neg h] at H)) | contradiction | skip)))
    | ((with_reducible apply ROps.val); (case hop => exact valX); (case hw => rfl); (case hdst => rfl); (case hd => rfl))
    | ((with_reducible apply ROps.idx); (case hop => rfl); (case hx => rfl); (case hi => rfl); (case he => rfl); (case hw => rfl); (case hdst => rfl); (case hd => rfl); (case h0 => first | assumption | omega); (case h1 => first | assumption | omega))
    | ((with_reducible apply ROps.alloc); (case hop => rfl); (case hw => rfl); (all_goals try rfl))
    | ((with_reducible apply ROps.box); (case hop => rfl); (case hx => rfl); (case hrf => rfl); (case hw => rfl); (all_goals try rfl))
    | ((with_reducible apply ROps.off); (case hw => rfl); (case hdst => rfl); (case hd => rfl))
    | ((with_reducible apply Runs.loopK1 ((fun i0 i1 i2 => fun kk (v0_3 : Int) => boarderlaw13_Great.l0 kk v0_3 i0 i1 i2) _ _ _) [1] [] (fun b v0_3 => [(3, .imm (.int .i64 v0_3))]) (fun v0_3 => []) _ _ [] H); (case h0 => intros; rfl); (any_goals (clear H; intro k0 hk0 ih0 v0_3 H; replace H : boarderlaw13_Great.l0 (k0 + 1) v0_3 _ _ _ = some _ := H; rw [boarderlaw13_Great.l0] at H)))
    | (with_reducible apply ih0 _ _ [] _ _ (by omega) H)
    | ((with_reducible apply Runs.loopK1 ((fun i0 i1 i2 i3 => fun kk (v1_4 : Int) => boarderlaw13_Great.l1 kk i0 v1_4 i1 i2 i3) _ _ _ _) [1, 3] [] (fun b v1_4 => [(4, .imm (.int .i64 v1_4))]) (fun v1_4 => []) _ _ [] H); (case h0 => intros; rfl); (any_goals (clear H; intro k1 hk1 ih1 v1_4 H; replace H : boarderlaw13_Great.l1 (k1 + 1) _ v1_4 _ _ _ = some _ := H; rw [boarderlaw13_Great.l1] at H)))
    | (with_reducible apply ih1 _ _ [] _ _ (by omega) H)
    | ((with_reducible apply Runs.loopK1 ((fun i0 i1 i2 i3 i4 i5 i6 i7 i8 i9 i10 i11 => fun kk (v2_6 : Int) => boarderlaw13_Great.l2 kk i0 i1 v2_6 i2 i3 i4 i5 i6 i7 i8 i9 i10 i11) _ _ _ _ _ _ _ _ _ _ _ _) [1, 3, 4, 5] [] (fun b v2_6 => [(6, .imm (.int .i64 v2_6))]) (fun v2_6 => []) _ _ [] H); (case h0 => intros; rfl); (any_goals (clear H; intro k2 hk2 ih2 v2_6 H; replace H : boarderlaw13_Great.l2 (k2 + 1) _ _ v2_6 _ _ _ _ _ _ _ _ _ _ = some _ := H; rw [boarderlaw13_Great.l2] at H)))
    | (with_reducible apply ih2 _ _ [] _ _ (by omega) H)
    | ((with_reducible apply Runs.retP tysOK); (case hrs => rfl); (case h => rfl); (case hr => (cases H; exact refX)); (case hx => rfl))
    | exact leRX)
end Go.Proofs.Ytopbcamlagdieaa.PStats
set_option linter.unusedVariables false
set_option linter.unusedSimpArgs false
namespace Go.Proofs.Ytopbcamlagdieaa.PStats
open Go.RowKit Go.Proofs.YtopbcamlagdieaaW.PrintWords Go.Proofs.YtopbcamlagdieaaW.PrintLast Go.Proofs.YtopbcamlagdieaaW.PrintMore Go.Proofs.Ytopbcamlagdieaa.Abs
/-! ### boarderlaw12_Great: function 20 -/
def boarderlaw12_Great.l0 : Nat → List (S68) → Int → Option (Bool)
  | 0, _, _ => none
  | k + 1, x0, x3 => if x3 < (x0.length : Int) then (if 0 ≤ x3 then (if (((rd_T68 x0 x3).f3).size : Int) > 1000 then (some true) else (boarderlaw12_Great.l0 k x0 (wrap64 (x3 + 1)))) else (none)) else (some (decide ((x0.length : Int) > 200)))
def boarderlaw12_Great.f (k : Nat) (l0 : List (S68)) : Option (Bool) := boarderlaw12_Great.l0 k l0 0
noncomputable def boarderlaw12_Great.cx : Cx := ⟨Try.prog, tys, glo, 20, Try.f20, [.tmp 2], 0⟩
set_option maxHeartbeats 16000000 in
set_option maxRecDepth 100000 in
theorem boarderlaw12_Great.ok {k : Nat} {l0 : List (S68)} {r0 : Bool} (H : boarderlaw12_Great.f k l0 = some r0) : CallOK Try.prog glo 20 [vS68 l0] (.imm (.bool r0)) := by
  unfold boarderlaw12_Great.f at H
  refine CallOK.of (c := boarderlaw12_Great.cx) Try.func20 (show (boarderlaw12_Great.cx).fn.body = some _ from rfl) rfl rfl (Nat.le_of_ble_eq_true rfl) rfl ?_
  repeat' (first
    | ((with_reducible replace H := some_ite H); obtain ⟨_, H⟩ := H)
    | (with_reducible replace H := true_ite H)
    | (with_reducible replace H := false_ite H)
    | ((with_reducible have hb := bool_ite H); clear H; rcases hb with ⟨e_, H⟩ | ⟨e_, H⟩ <;> subst e_)
    | ((with_reducible apply ROps.pure); (case hop => rfl); (case hw => rfl); (case hdst => rfl); (case hd => rfl))
    | (with_reducible apply ROps.nil)
    | (with_reducible apply Runs.seq)
    | (with_reducible apply Runs.region tysOK)
    | (with_reducible apply Runs.block)
    | (with_reducible apply Runs.skip)
    | (with_reducible apply Runs.inBlock)
    | (with_reducible apply Runs.scope)
    | (with_reducible apply Runs.inScope)
    | (with_reducible apply Runs.label)
    | ((with_reducible apply Runs.condT); (case ho => rfl))
    | ((with_reducible apply Runs.condF); (case ho => rfl))
    | ((with_reducible apply Runs.exit); (case he => rfl))
    | ((with_reducible apply ROps.cmp); (case hop => exact cmpX); (case hw => rfl); (case hdst => rfl); (case hd => rfl); (all_goals (intro h; first | (replace H := ite_pos_ h H) | (replace H := ite_neg_ h H) | (replace H := dec_pos h H) | (replace H := dec_neg h H) | (replace H := dec_t h H) | (replace H := dec_f h H) | (replace H := ite_pos_ (Decidable.not_not.1 h) H) | ((try simp only [rd_T68, rdOf] at h); (try simp only [rd_T68, rdOf] at H); (rw [decide_eq_true h] at H)) | ((try simp only [rd_T68, rdOf] at h); (try simp only [rd_T68, rdOf] at H); (rw [decide_eq_false h] at H)) | ((try simp only [rd_T68, rdOf] at h); (try simp only [rd_T68, rdOf] at H); (rw [if_pos h] at H)) | ((try simp only [rd_T68, rdOf] at h); (try simp only [rd_T68, rdOf] at H); (rw [if_neg h] at H)) | contradiction | skip)))
    | ((with_reducible apply ROps.val); (case hop => exact valX); (case hw => rfl); (case hdst => rfl); (case hd => rfl))
    | ((with_reducible apply ROps.idx); (case hop => rfl); (case hx => rfl); (case hi => rfl); (case he => rfl); (case hw => rfl); (case hdst => rfl); (case hd => rfl); (case h0 => first | assumption | omega); (case h1 => first | assumption | omega))
    | ((with_reducible apply Runs.loopK1 ((fun i0 => fun kk (v0_3 : Int) => boarderlaw12_Great.l0 kk i0 v0_3) _) [0] [] (fun b v0_3 => [(3, .imm (.int .i64 v0_3))]) (fun v0_3 => []) _ _ [] H); (case h0 => intros; rfl); (any_goals (clear H; intro k0 hk0 ih0 v0_3 H; replace H : boarderlaw12_Great.l0 (k0 + 1) _ v0_3 = some _ := H; rw [boarderlaw12_Great.l0] at H)))
    | (with_reducible apply ih0 _ _ [] _ _ (by omega) H)
    | ((with_reducible apply Runs.retP tysOK); (case hrs => rfl); (case h => rfl); (case hr => (cases H; exact refX)); (case hx => rfl))
    | exact leRX)
end Go.Proofs.Ytopbcamlagdieaa.PStats
set_option linter.unusedVariables false
set_option linter.unusedSimpArgs false
namespace Go.Proofs.Ytopbcamlagdieaa.PStats
open Go.RowKit Go.Proofs.YtopbcamlagdieaaW.PrintWords Go.Proofs.YtopbcamlagdieaaW.PrintLast Go.Proofs.YtopbcamlagdieaaW.PrintMore Go.Proofs.Ytopbcamlagdieaa.Abs
/-! ### boarderlaw26_great: function 10 -/
def boarderlaw26_great.f (k : Nat) (a0_0 : Int) (a0_1 : Int) (l0_2 : List (S56)) (l1 : List (S68)) : Option (Bool) := (boarderlaw13_Great.f k a0_0 a0_1 l0_2).bind fun t361 => (if t361 = true then (some true) else ((boarderlaw12_Great.f k l1).bind fun t362 => (some t362)))
noncomputable def boarderlaw26_great.cx : Cx := ⟨Try.prog, tys, glo, 11, Try.f10, [.tmp 4], 0⟩
set_option maxHeartbeats 16000000 in
set_option maxRecDepth 100000 in
theorem boarderlaw26_great.ok {k : Nat} {a0_0 : Int} {a0_1 : Int} {l0_2 : List (S56)} {l1 : List (S68)} {r0 : Bool} (H : boarderlaw26_great.f k a0_0 a0_1 l0_2 l1 = some r0) : CallOK Try.prog glo 10 [.agg [.imm (.int .i64 a0_0), .imm (.int .i64 a0_1), vS56 l0_2], vS68 l1] (.imm (.bool r0)) := by
  unfold boarderlaw26_great.f at H
  refine CallOK.of (c := boarderlaw26_great.cx) Try.func10 (show (boarderlaw26_great.cx).fn.body = some _ from rfl) rfl rfl (Nat.le_of_ble_eq_true rfl) rfl ?_
  repeat' (first
    | ((with_reducible replace H := some_ite H); obtain ⟨_, H⟩ := H)
    | (with_reducible replace H := some_bind_ H)
    | (with_reducible replace H := true_ite H)
    | (with_reducible replace H := false_ite H)
    | ((with_reducible have hb := bool_ite H); clear H; rcases hb with ⟨e_, H⟩ | ⟨e_, H⟩ <;> subst e_)
    | ((with_reducible apply ROps.pure); (case hop => rfl); (case hw => rfl); (case hdst => rfl); (case hd => rfl))
    | (with_reducible apply ROps.nil)
    | (with_reducible apply Runs.seq)
    | (with_reducible apply Runs.region tysOK)
    | (with_reducible apply Runs.scope)
    | (with_reducible apply Runs.inScope)
    | (with_reducible apply Runs.label)
    | ((with_reducible apply ROps.box); (case hop => rfl); (case hx => rfl); (case hrf => rfl); (case hw => rfl); (all_goals try rfl))
    | ((with_reducible apply ROps.off); (case hw => rfl); (case hdst => rfl); (case hd => rfl))
    | ((with_reducible have hB : (boarderlaw13_Great.f _ _ _ _).bind _ = some _ := H); clear hB; (replace H := bind_some' H); (obtain ⟨t_, H1, H⟩ := H); (try dsimp only at H); (with_reducible apply ROps.call); (case hop => rfl); (case hc => exact boarderlaw13_Great.ok H1); (case ha => exact argsX); (case hw => rfl); (case hdst => rfl); (case hd => rfl))
    | ((with_reducible have hB : (boarderlaw12_Great.f _ _).bind _ = some _ := H); clear hB; (replace H := bind_some' H); (obtain ⟨t_, H1, H⟩ := H); (try dsimp only at H); (with_reducible apply ROps.call); (case hop => rfl); (case hc => exact boarderlaw12_Great.ok H1); (case ha => exact argsX); (case hw => rfl); (case hdst => rfl); (case hd => rfl))
    | ((with_reducible apply Runs.retP tysOK); (case hrs => rfl); (case h => rfl); (case hr => (cases H; exact refX)); (case hx => rfl))
    | exact leRX)
end Go.Proofs.Ytopbcamlagdieaa.PStats
set_option linter.unusedVariables false
set_option linter.unusedSimpArgs false
namespace Go.Proofs.Ytopbcamlagdieaa.PStats
open Go.RowKit Go.Proofs.YtopbcamlagdieaaW.PrintWords Go.Proofs.YtopbcamlagdieaaW.PrintLast Go.Proofs.YtopbcamlagdieaaW.PrintMore Go.Proofs.Ytopbcamlagdieaa.Abs
/-! ### addr_Right: function 58 -/
def addr_Right.f (a0 : Int) : Option (Bool) := if a0 ≥ 0 then (some (decide (a0 ≤ 4294967295))) else (some false)
noncomputable def addr_Right.cx : Cx := ⟨Try.prog, tys, glo, 9, Try.f58, [.tmp 2], 0⟩
set_option maxHeartbeats 16000000 in
set_option maxRecDepth 100000 in
theorem addr_Right.ok {a0 : Int} {r0 : Bool} (H : addr_Right.f a0 = some r0) : CallOK Try.prog glo 58 [.imm (.int .i64 a0)] (.imm (.bool r0)) := by
  unfold addr_Right.f at H
  refine CallOK.of (c := addr_Right.cx) Try.func58 (show (addr_Right.cx).fn.body = some _ from rfl) rfl rfl (Nat.le_of_ble_eq_true rfl) rfl ?_
  repeat' (first
    | ((with_reducible replace H := some_ite H); obtain ⟨_, H⟩ := H)
    | (with_reducible replace H := true_ite H)
    | (with_reducible replace H := false_ite H)
    | ((with_reducible have hb := bool_ite H); clear H; rcases hb with ⟨e_, H⟩ | ⟨e_, H⟩ <;> subst e_)
    | ((with_reducible apply ROps.pure); (case hop => rfl); (case hw => rfl); (case hdst => rfl); (case hd => rfl))
    | (with_reducible apply ROps.nil)
    | (with_reducible apply Runs.seq)
    | (with_reducible apply Runs.region tysOK)
    | (with_reducible apply Runs.scope)
    | (with_reducible apply Runs.inScope)
    | (with_reducible apply Runs.label)
    | ((with_reducible apply ROps.cmp); (case hop => exact cmpX); (case hw => rfl); (case hdst => rfl); (case hd => rfl); (all_goals (intro h; first | (replace H := ite_pos_ h H) | (replace H := ite_neg_ h H) | (replace H := dec_pos h H) | (replace H := dec_neg h H) | (replace H := dec_t h H) | (replace H := dec_f h H) | (replace H := ite_pos_ (Decidable.not_not.1 h) H) | ((try simp only [rdOf] at h); (try simp only [rdOf] at H); (rw [decide_eq_true h] at H)) | ((try simp only [rdOf] at h); (try simp only [rdOf] at H); (rw [decide_eq_false h] at H)) | ((try simp only [rdOf] at h); (try simp only [rdOf] at H); (rw [if_pos h] at H)) | ((try simp only [rdOf] at h); (try simp only [rdOf] at H); (rw [if_neg h] at H)) | contradiction | skip)))
    | ((with_reducible apply ROps.off); (case hw => rfl); (case hdst => rfl); (case hd => rfl))
    | ((with_reducible apply Runs.retP tysOK); (case hrs => rfl); (case h => rfl); (case hr => (cases H; exact refX)); (case hx => rfl))
    | exact leRX)
end Go.Proofs.Ytopbcamlagdieaa.PStats
set_option linter.unusedVariables false
set_option linter.unusedSimpArgs false
namespace Go.Proofs.Ytopbcamlagdieaa.PStats
open Go.RowKit Go.Proofs.YtopbcamlagdieaaW.PrintWords Go.Proofs.YtopbcamlagdieaaW.PrintLast Go.Proofs.YtopbcamlagdieaaW.PrintMore Go.Proofs.Ytopbcamlagdieaa.Abs
/-! ### conf_within: function 59 -/
def conf_within.f (a0 : Int) (a1 : Int) (a2 : Int) : Option (Bool) := if a0 ≥ a1 then (some (decide (a0 ≤ a2))) else (some false)
noncomputable def conf_within.cx : Cx := ⟨Try.prog, tys, glo, 15, Try.f59, [.tmp 6], 0⟩
set_option maxHeartbeats 16000000 in
set_option maxRecDepth 100000 in
theorem conf_within.ok {a0 : Int} {a1 : Int} {a2 : Int} {r0 : Bool} (H : conf_within.f a0 a1 a2 = some r0) : CallOK Try.prog glo 59 [.imm (.int .i64 a0), .imm (.int .i64 a1), .imm (.int .i64 a2)] (.imm (.bool r0)) := by
  unfold conf_within.f at H
  refine CallOK.of (c := conf_within.cx) Try.func59 (show (conf_within.cx).fn.body = some _ from rfl) rfl rfl (Nat.le_of_ble_eq_true rfl) rfl ?_
  repeat' (first
    | ((with_reducible replace H := some_ite H); obtain ⟨_, H⟩ := H)
    | (with_reducible replace H := true_ite H)
    | (with_reducible replace H := false_ite H)
    | ((with_reducible have hb := bool_ite H); clear H; rcases hb with ⟨e_, H⟩ | ⟨e_, H⟩ <;> subst e_)
    | ((with_reducible apply ROps.pure); (case hop => rfl); (case hw => rfl); (case hdst => rfl); (case hd => rfl))
    | (with_reducible apply ROps.nil)
    | (with_reducible apply Runs.seq)
    | (with_reducible apply Runs.region tysOK)
    | (with_reducible apply Runs.scope)
    | (with_reducible apply Runs.inScope)
    | (with_reducible apply Runs.label)
    | ((with_reducible apply ROps.cmp); (case hop => exact cmpX); (case hw => rfl); (case hdst => rfl); (case hd => rfl); (all_goals (intro h; first | (replace H := ite_pos_ h H) | (replace H := ite_neg_ h H) | (replace H := dec_pos h H) | (replace H := dec_neg h H) | (replace H := dec_t h H) | (replace H := dec_f h H) | (replace H := ite_pos_ (Decidable.not_not.1 h) H) | ((try simp only [rdOf] at h); (try simp only [rdOf] at H); (rw [decide_eq_true h] at H)) | ((try simp only [rdOf] at h); (try simp only [rdOf] at H); (rw [decide_eq_false h] at H)) | ((try simp only [rdOf] at h); (try simp only [rdOf] at H); (rw [if_pos h] at H)) | ((try simp only [rdOf] at h); (try simp only [rdOf] at H); (rw [if_neg h] at H)) | contradiction | skip)))
    | ((with_reducible apply ROps.off); (case hw => rfl); (case hdst => rfl); (case hd => rfl))
    | ((with_reducible apply Runs.retP tysOK); (case hrs => rfl); (case h => rfl); (case hr => (cases H; exact refX)); (case hx => rfl))
    | exact leRX)
end Go.Proofs.Ytopbcamlagdieaa.PStats
set_option linter.unusedVariables false
set_option linter.unusedSimpArgs false
namespace Go.Proofs.Ytopbcamlagdieaa.PStats
open Go.RowKit Go.Proofs.YtopbcamlagdieaaW.PrintWords Go.Proofs.YtopbcamlagdieaaW.PrintLast Go.Proofs.YtopbcamlagdieaaW.PrintMore Go.Proofs.Ytopbcamlagdieaa.Abs
/-! ### conf_spots: function 60 -/
mutual
def conf_spots.l0 : Nat → List (S86) → List (S56) → Int → Int → Option ((List (S86)))
  | 0, _, _, _, _ => none
  | k + 1, x3, x9, x10, x11 => if x11 < x10 then (if 0 ≤ x11 then (if x11 < (x9.length : Int) then (conf_spots.l1 k x3 x11 x9 x10 x11 ((rd_T56 x9 x11).f0) (((rd_T56 x9 x11).f0).length : Int) 0) else (none)) else (none)) else (some x3)
def conf_spots.l1 : Nat → List (S86) → Int → List (S56) → Int → Int → List (S60) → Int → Int → Option ((List (S86)))
  | 0, _, _, _, _, _, _, _, _ => none
  | k + 1, x3, x4, x9, x10, x11, x17, x18, x19 => if x19 < x18 then (if 0 ≤ x19 then (if x19 < (x17.length : Int) then (if x3.length < 1353245080339 then (conf_spots.l1 k (x3 ++ [(⟨x4, x19, (⟨(rd_T60 x17 x19).f0, (rd_T60 x17 x19).f1, (rd_T60 x17 x19).f2, (rd_T60 x17 x19).f3, (rd_T60 x17 x19).f4, (rd_T60 x17 x19).f5, (rd_T60 x17 x19).f6⟩ : S60)⟩ : S86)]) x4 x9 x10 x11 x17 x18 (wrap64 (x19 + 1))) else (none)) else (none)) else (none)) else (conf_spots.l0 k x3 x9 x10 (wrap64 (x11 + 1)))
end
def conf_spots.f (k : Nat) (a0_0 : Int) (a0_1 : Int) (l0_2 : List (S56)) : Option ((List (S86))) := conf_spots.l0 k ([] : List (S86)) l0_2 (l0_2.length : Int) 0
noncomputable def conf_spots.cx : Cx := ⟨Try.prog, tys, glo, 34, Try.f60, [.tmp 2], 0⟩
set_option maxHeartbeats 16000000 in
set_option maxRecDepth 100000 in
theorem conf_spots.ok {k : Nat} {a0_0 : Int} {a0_1 : Int} {l0_2 : List (S56)} {r0 : List (S86)} (H : conf_spots.f k a0_0 a0_1 l0_2 = some r0) : CallOK Try.prog glo 60 [.agg [.imm (.int .i64 a0_0), .imm (.int .i64 a0_1), vS56 l0_2]] (vS86 r0) := by
  unfold conf_spots.f at H
  refine CallOK.of (c := conf_spots.cx) Try.func60 (show (conf_spots.cx).fn.body = some _ from rfl) rfl rfl (Nat.le_of_ble_eq_true rfl) rfl ?_
  repeat' (first
    | ((with_reducible replace H := some_ite H); obtain ⟨_, H⟩ := H)
    | (with_reducible replace H := true_ite H)
    | (with_reducible replace H := false_ite H)
    | ((with_reducible have hb := bool_ite H); clear H; rcases hb with ⟨e_, H⟩ | ⟨e_, H⟩ <;> subst e_)
    | ((with_reducible apply ROps.pure); (case hop => rfl); (case hw => rfl); (case hdst => rfl); (case hd => rfl))
    | (with_reducible apply ROps.nil)
    | (with_reducible apply Runs.seq)
    | (with_reducible apply Runs.region tysOK)
    | (with_reducible apply Runs.block)
    | (with_reducible apply Runs.skip)
    | (with_reducible apply Runs.inBlock)
    | (with_reducible apply Runs.scope)
    | (with_reducible apply Runs.inScope)
    | (with_reducible apply Runs.label)
    | ((with_reducible apply Runs.condT); (case ho => rfl))
    | ((with_reducible apply Runs.condF); (case ho => rfl))
    | ((with_reducible apply Runs.exit); (case he => rfl))
    | ((with_reducible apply ROps.store); (case hop => rfl); (case hp => rfl); (case hR => rfl); (case hc => rfl); (case hl => first | (dsimp only [setR_one, setR, Nat.beq, cond]; done) | (dsimp only [setR_one, setR, Nat.beq, cond]; rfl) | rfl); (case hl' => first | (dsimp only [List.take, List.drop, List.append, List.nil_append, List.cons_append, List.map, List.length, Nat.add]; rfl) | rfl); (case hw => rfl); (all_goals try rfl))
    | ((with_reducible apply ROps.cmp); (case hop => exact cmpX); (case hw => rfl); (case hdst => rfl); (case hd => rfl); (all_goals (intro h; first | (replace H := ite_pos_ h H) | (replace H := ite_neg_ h H) | (replace H := dec_pos h H) | (replace H := dec_neg h H) | (replace H := dec_t h H) | (replace H := dec_f h H) | (replace H := ite_pos_ (Decidable.not_not.1 h) H) | ((try simp only [rd_T56, rd_T60, rdOf] at h); (try simp only [rd_T56, rd_T60, rdOf] at H); (rw [decide_eq_true h] at H)) | ((try simp only [rd_T56, rd_T60, rdOf] at h); (try simp only [rd_T56, rd_T60, rdOf] at H); (rw [decide_eq_false h] at H)) | ((try simp only [rd_T56, rd_T60, rdOf] at h); (try simp only [rd_T56, rd_T60, rdOf] at H); (rw [if_pos h] at H)) | ((try simp only [rd_T56, rd_T60, rdOf] at h); (try simp only [rd_T56, rd_T60, rdOf] at H); (rw [if_neg h] at H)) | contradiction | skip)))
    | ((with_reducible apply ROps.val); (case hop => exact valX); (case hw => rfl); (case hdst => rfl); (case hd => rfl))
    | ((with_reducible apply ROps.idx); (case hop => rfl); (case hx => rfl); (case hi => rfl); (case he => rfl); (case hw => rfl); (case hdst => rfl); (case hd => rfl); (case h0 => first | assumption | omega); (case h1 => first | assumption | omega))
    | ((with_reducible apply ROps.alloc); (case hop => rfl); (case hw => rfl); (all_goals try rfl))
    | ((with_reducible apply ROps.box); (case hop => rfl); (case hx => rfl); (case hrf => rfl); (case hw => rfl); (all_goals try rfl))
    | ((with_reducible apply ROps.lit); (case hop => rfl); (case hti => rfl); (case hsz => rfl); (case hl => rfl); (case hrf => rfl); (case hw => rfl); (all_goals try rfl))
    | ((with_reducible apply ROps.app); (case hop => rfl); (case hti => rfl); (case hsz => rfl); (case hs => rfl); (case hR => rfl); (case hx => rfl); (case hb => constructor <;> ((try simp only [maxLen, List.length_nil, List.length_cons, List.length_append] at *); omega)); (case hw => rfl); (all_goals try rfl))
    | ((with_reducible apply ROps.appN); (case hop => rfl); (case hti => rfl); (case hsz => rfl); (case hs => rfl); (case hx => rfl); (case hb => constructor <;> ((try simp only [maxLen, List.length_nil, List.length_cons, List.length_append] at *); omega)); (case hw => rfl); (all_goals try rfl))
    | ((with_reducible apply Runs.loopK2 ((fun i0 i1 => fun kk (v0_3 : List (S86)) (v0_11 : Int) => conf_spots.l0 kk v0_3 i0 i1 v0_11) _ _) [9, 10] [] (fun b v0_3 v0_11 => [(3, .own (b + 0) (v0_3).length 9 (rowsE eS86 z86 v0_3)), (11, .imm (.int .i64 v0_11))]) (fun v0_3 v0_11 => [.arr 86 9 (v0_3).length]) _ _ _ [_] H); (case h0 => intros; rfl); (any_goals (clear H; intro k0 hk0 ih0 v0_3 v0_11 H; replace H : conf_spots.l0 (k0 + 1) v0_3 _ _ v0_11 = some _ := H; rw [conf_spots.l0] at H)))
    | (with_reducible apply ih0 _ _ _ [_] _ _ (by omega) H)
    | ((with_reducible apply Runs.loopK2 ((fun i0 i1 i2 i3 i4 i5 => fun kk (v1_3 : List (S86)) (v1_19 : Int) => conf_spots.l1 kk v1_3 i0 i1 i2 i3 i4 i5 v1_19) _ _ _ _ _ _) [4, 9, 10, 11, 17, 18] [] (fun b v1_3 v1_19 => [(3, .own (b + 0) (v1_3).length 9 (rowsE eS86 z86 v1_3)), (19, .imm (.int .i64 v1_19))]) (fun v1_3 v1_19 => [.arr 86 9 (v1_3).length]) _ _ _ [_] H); (case h0 => intros; rfl); (any_goals (clear H; intro k1 hk1 ih1 v1_3 v1_19 H; replace H : conf_spots.l1 (k1 + 1) v1_3 _ _ _ _ _ _ v1_19 = some _ := H; rw [conf_spots.l1] at H)))
    | (with_reducible apply ih1 _ _ _ [_] _ _ (by omega) H)
    | ((with_reducible apply Runs.retP tysOK); (case hrs => rfl); (case h => rfl); (case hr => (cases H; exact refX)); (case hx => rfl))
    | exact leRX)
end Go.Proofs.Ytopbcamlagdieaa.PStats
set_option linter.unusedVariables false
set_option linter.unusedSimpArgs false
namespace Go.Proofs.Ytopbcamlagdieaa.PStats
open Go.RowKit Go.Proofs.YtopbcamlagdieaaW.PrintWords Go.Proofs.YtopbcamlagdieaaW.PrintLast Go.Proofs.YtopbcamlagdieaaW.PrintMore Go.Proofs.Ytopbcamlagdieaa.Abs
/-! ### key_Right: function 64 -/
def key_Right.f (a0 : ByteArray) : Option (Bool) := if (a0.size : Int) = 0 then (some false) else (if 0 < (a0.size : Int) then (if (bt a0 0) = 105 then (if (wrap64 ((a0.size : Int) - 1)) ≥ 2 then (some (decide ((wrap64 ((a0.size : Int) - 1)) ≤ 255))) else (some false)) else (if (bt a0 0) = 104 then (if (wrap64 ((a0.size : Int) - 1)) ≥ 2 then (some (decide ((wrap64 ((a0.size : Int) - 1)) ≤ 17))) else (some false)) else (some false))) else (none))
noncomputable def key_Right.cx : Cx := ⟨Try.prog, tys, glo, 28, Try.f64, [.tmp 2], 0⟩
set_option maxHeartbeats 16000000 in
set_option maxRecDepth 100000 in
theorem key_Right.ok {a0 : ByteArray} {r0 : Bool} (H : key_Right.f a0 = some r0) : CallOK Try.prog glo 64 [.imm (.string a0)] (.imm (.bool r0)) := by
  unfold key_Right.f at H
  refine CallOK.of (c := key_Right.cx) Try.func64 (show (key_Right.cx).fn.body = some _ from rfl) rfl rfl (Nat.le_of_ble_eq_true rfl) rfl ?_
  repeat' (first
    | ((with_reducible replace H := some_ite H); obtain ⟨_, H⟩ := H)
    | (with_reducible replace H := true_ite H)
    | (with_reducible replace H := false_ite H)
    | ((with_reducible have hb := bool_ite H); clear H; rcases hb with ⟨e_, H⟩ | ⟨e_, H⟩ <;> subst e_)
    | ((with_reducible apply ROps.pure); (case hop => rfl); (case hw => rfl); (case hdst => rfl); (case hd => rfl))
    | (with_reducible apply ROps.nil)
    | (with_reducible apply Runs.seq)
    | (with_reducible apply Runs.region tysOK)
    | (with_reducible apply Runs.block)
    | (with_reducible apply Runs.skip)
    | (with_reducible apply Runs.inBlock)
    | (with_reducible apply Runs.scope)
    | (with_reducible apply Runs.inScope)
    | (with_reducible apply Runs.label)
    | ((with_reducible apply Runs.condT); (case ho => rfl))
    | ((with_reducible apply Runs.condF); (case ho => rfl))
    | ((with_reducible apply ROps.cmp); (case hop => exact cmpX); (case hw => rfl); (case hdst => rfl); (case hd => rfl); (all_goals (intro h; first | (replace H := ite_pos_ h H) | (replace H := ite_neg_ h H) | (replace H := dec_pos h H) | (replace H := dec_neg h H) | (replace H := dec_t h H) | (replace H := dec_f h H) | (replace H := beq_pos h H) | (replace H := beq_neg h H) | (replace H := beq_tt h H) | (replace H := beq_ff h H) | (replace H := ite_pos_ (Decidable.not_not.1 h) H) | (replace H := beq_pos (Decidable.not_not.1 h) H) | (replace H := beq_tt (Decidable.not_not.1 h) H) | ((try simp only [rdOf] at h); (try simp only [rdOf] at H); (rw [decide_eq_true h] at H)) | ((try simp only [rdOf] at h); (try simp only [rdOf] at H); (rw [decide_eq_false h] at H)) | ((try simp only [rdOf] at h); (try simp only [rdOf] at H); (rw [beq_t h] at H)) | ((try simp only [rdOf] at h); (try simp only [rdOf] at H); (rw [beq_f h] at H)) | ((try simp only [rdOf] at h); (try simp only [rdOf] at H); (rw [bne_t h] at H)) | ((try simp only [rdOf] at h); (try simp only [rdOf] at H); (rw [bne_f h] at H)) | ((try simp only [rdOf] at h); (try simp only [rdOf] at H); (rw [beq_t (Decidable.not_not.1 h)] at H)) | ((try simp only [rdOf] at h); (try simp only [rdOf] at H); (rw [bne_f (Decidable.not_not.1 h)] at H)) | ((try simp only [rdOf] at h); (try simp only [rdOf] at H); (rw [if_pos h] at H)) | ((try simp only [rdOf] at h); (try simp only [rdOf] at H); (rw [if_neg h] at H)) | contradiction | skip)))
    | ((with_reducible apply ROps.val); (case hop => exact valX); (case hw => rfl); (case hdst => rfl); (case hd => rfl))
    | ((first | (with_reducible apply ROps.eqS; case hop => rfl) | (with_reducible apply ROps.neS; case hop => rfl)); (case ht => rfl); (case hx => rfl); (case hy => rfl); (case hl => rfl); (case hr => rfl); (case hw => rfl); (case hdst => rfl); (case hd => rfl); (all_goals (intro h; first | (replace H := ite_posF H h) | (replace H := ite_negF H h) | (dsimp only [eqP, eqA] at h) | skip)))
    | ((with_reducible apply ROps.off); (case hw => rfl); (case hdst => rfl); (case hd => rfl))
    | ((with_reducible apply Runs.retP tysOK); (case hrs => rfl); (case h => rfl); (case hr => (cases H; exact refX)); (case hx => rfl))
    | exact leRX)
end Go.Proofs.Ytopbcamlagdieaa.PStats
set_option linter.unusedVariables false
set_option linter.unusedSimpArgs false
namespace Go.Proofs.Ytopbcamlagdieaa.PStats
open Go.RowKit Go.Proofs.YtopbcamlagdieaaW.PrintWords Go.Proofs.YtopbcamlagdieaaW.PrintLast Go.Proofs.YtopbcamlagdieaaW.PrintMore Go.Proofs.Ytopbcamlagdieaa.Abs
/-! ### addr_mask: function 66 -/
def addr_mask.f (a0 : Int) : Option (Int) := if 0 ≤ (wrap64 (32 - a0)) then (some (Go.bits .andNot .i64 4294967295 (wrap64 ((shl .i64 1 (wrap64 (32 - a0))) - 1)))) else (none)
noncomputable def addr_mask.cx : Cx := ⟨Try.prog, tys, glo, 8, Try.f66, [.tmp 2], 0⟩
set_option maxHeartbeats 16000000 in
set_option maxRecDepth 100000 in
theorem addr_mask.ok {a0 : Int} {r0 : Int} (H : addr_mask.f a0 = some r0) : CallOK Try.prog glo 66 [.imm (.int .i64 a0)] (.imm (.int .i64 r0)) := by
  unfold addr_mask.f at H
  refine CallOK.of (c := addr_mask.cx) Try.func66 (show (addr_mask.cx).fn.body = some _ from rfl) rfl rfl (Nat.le_of_ble_eq_true rfl) rfl ?_
  repeat' (first
    | ((with_reducible replace H := some_ite H); obtain ⟨_, H⟩ := H)
    | (with_reducible replace H := true_ite H)
    | (with_reducible replace H := false_ite H)
    | ((with_reducible have hb := bool_ite H); clear H; rcases hb with ⟨e_, H⟩ | ⟨e_, H⟩ <;> subst e_)
    | ((with_reducible apply ROps.pure); (case hop => rfl); (case hw => rfl); (case hdst => rfl); (case hd => rfl))
    | (with_reducible apply ROps.nil)
    | (with_reducible apply Runs.seq)
    | (with_reducible apply Runs.region tysOK)
    | (with_reducible apply Runs.scope)
    | (with_reducible apply Runs.inScope)
    | (with_reducible apply Runs.label)
    | ((with_reducible apply ROps.val); (case hop => exact valX); (case hw => rfl); (case hdst => rfl); (case hd => rfl))
    | ((with_reducible apply Runs.retP tysOK); (case hrs => rfl); (case h => rfl); (case hr => (cases H; exact refX)); (case hx => rfl))
    | exact leRX)
end Go.Proofs.Ytopbcamlagdieaa.PStats
set_option linter.unusedVariables false
set_option linter.unusedSimpArgs false
namespace Go.Proofs.Ytopbcamlagdieaa.PStats
open Go.RowKit Go.Proofs.YtopbcamlagdieaaW.PrintWords Go.Proofs.YtopbcamlagdieaaW.PrintLast Go.Proofs.YtopbcamlagdieaaW.PrintMore Go.Proofs.Ytopbcamlagdieaa.Abs
/-! ### addr_Fair: function 65 -/
def addr_Fair.f (a0 : Int) (a1 : Int) : Option (Bool) := if a1 ≥ 0 then (if a1 ≤ 32 then ((addr_Right.f a0).bind fun t117 => (if t117 = true then ((addr_mask.f a1).bind fun t118 => (some ((Go.bits .andNot .i64 a0 t118) == 0))) else (some false))) else (some false)) else (some false)
noncomputable def addr_Fair.cx : Cx := ⟨Try.prog, tys, glo, 22, Try.f65, [.tmp 4], 0⟩
set_option maxHeartbeats 16000000 in
set_option maxRecDepth 100000 in
theorem addr_Fair.ok {a0 : Int} {a1 : Int} {r0 : Bool} (H : addr_Fair.f a0 a1 = some r0) : CallOK Try.prog glo 65 [.imm (.int .i64 a0), .imm (.int .i64 a1)] (.imm (.bool r0)) := by
  unfold addr_Fair.f at H
  refine CallOK.of (c := addr_Fair.cx) Try.func65 (show (addr_Fair.cx).fn.body = some _ from rfl) rfl rfl (Nat.le_of_ble_eq_true rfl) rfl ?_
  repeat' (first
    | ((with_reducible replace H := some_ite H); obtain ⟨_, H⟩ := H)
    | (with_reducible replace H := true_ite H)
    | (with_reducible replace H := false_ite H)
    | ((with_reducible have hb := bool_ite H); clear H; rcases hb with ⟨e_, H⟩ | ⟨e_, H⟩ <;> subst e_)
    | ((with_reducible apply ROps.pure); (case hop => rfl); (case hw => rfl); (case hdst => rfl); (case hd => rfl))
    | (with_reducible apply ROps.nil)
    | (with_reducible apply Runs.seq)
    | (with_reducible apply Runs.region tysOK)
    | (with_reducible apply Runs.scope)
    | (with_reducible apply Runs.inScope)
    | (with_reducible apply Runs.label)
    | ((with_reducible apply ROps.cmp); (case hop => exact cmpX); (case hw => rfl); (case hdst => rfl); (case hd => rfl); (all_goals (intro h; first | (replace H := ite_pos_ h H) | (replace H := ite_neg_ h H) | (replace H := dec_pos h H) | (replace H := dec_neg h H) | (replace H := dec_t h H) | (replace H := dec_f h H) | (replace H := beq_pos h H) | (replace H := beq_neg h H) | (replace H := beq_tt h H) | (replace H := beq_ff h H) | (replace H := ite_pos_ (Decidable.not_not.1 h) H) | (replace H := beq_pos (Decidable.not_not.1 h) H) | (replace H := beq_tt (Decidable.not_not.1 h) H) | ((try simp only [rdOf] at h); (try simp only [rdOf] at H); (rw [decide_eq_true h] at H)) | ((try simp only [rdOf] at h); (try simp only [rdOf] at H); (rw [decide_eq_false h] at H)) | ((try simp only [rdOf] at h); (try simp only [rdOf] at H); (rw [beq_t h] at H)) | ((try simp only [rdOf] at h); (try simp only [rdOf] at H); (rw [beq_f h] at H)) | ((try simp only [rdOf] at h); (try simp only [rdOf] at H); (rw [beq_t (Decidable.not_not.1 h)] at H)) | ((try simp only [rdOf] at h); (try simp only [rdOf] at H); (rw [if_pos h] at H)) | ((try simp only [rdOf] at h); (try simp only [rdOf] at H); (rw [if_neg h] at H)) | contradiction | skip)))
    | ((with_reducible apply ROps.val); (case hop => exact valX); (case hw => rfl); (case hdst => rfl); (case hd => rfl))
    | ((first | (with_reducible apply ROps.eqS; case hop => rfl) | (with_reducible apply ROps.neS; case hop => rfl)); (case ht => rfl); (case hx => rfl); (case hy => rfl); (case hl => rfl); (case hr => rfl); (case hw => rfl); (case hdst => rfl); (case hd => rfl); (all_goals (intro h; first | (replace H := ite_posF H h) | (replace H := ite_negF H h) | (dsimp only [eqP, eqA] at h) | skip)))
    | ((with_reducible apply ROps.off); (case hw => rfl); (case hdst => rfl); (case hd => rfl))
    | ((with_reducible have hB : (addr_Right.f _).bind _ = some _ := H); clear hB; (replace H := bind_some' H); (obtain ⟨t_, H1, H⟩ := H); (try dsimp only at H); (with_reducible apply ROps.call); (case hop => rfl); (case hc => exact addr_Right.ok H1); (case ha => exact argsX); (case hw => rfl); (case hdst => rfl); (case hd => rfl))
    | ((with_reducible have hB : (addr_mask.f _).bind _ = some _ := H); clear hB; (replace H := bind_some' H); (obtain ⟨t_, H1, H⟩ := H); (try dsimp only at H); (with_reducible apply ROps.call); (case hop => rfl); (case hc => exact addr_mask.ok H1); (case ha => exact argsX); (case hw => rfl); (case hdst => rfl); (case hd => rfl))
    | ((with_reducible apply Runs.retP tysOK); (case hrs => rfl); (case h => rfl); (case hr => (cases H; exact refX)); (case hx => rfl))
    | exact leRX)
end Go.Proofs.Ytopbcamlagdieaa.PStats
set_option linter.unusedVariables false
set_option linter.unusedSimpArgs false
namespace Go.Proofs.Ytopbcamlagdieaa.PStats
open Go.RowKit Go.Proofs.YtopbcamlagdieaaW.PrintWords Go.Proofs.YtopbcamlagdieaaW.PrintLast Go.Proofs.YtopbcamlagdieaaW.PrintMore Go.Proofs.Ytopbcamlagdieaa.Abs
/-! ### conf_fair: function 61 -/
mutual
def conf_fair.j0 : Nat → Bool → Int → Int → List (S76) → List (S65) → Int → Int → Int → Option (Bool)
  | 0, _, _, _, _, _, _, _, _ => none
  | k + 1, x42, x120000, x120001, x120002, x120003, x120004, x120005, x120006 => if x42 = true then (some false) else (conf_fair.l0 k x120002 (x120002.length : Int) 0 x120000 x120001 x120002 x120003 x120004 x120005 x120006)
def conf_fair.l0 : Nat → List (S76) → Int → Int → Int → Int → List (S76) → List (S65) → Int → Int → Int → Option (Bool)
  | 0, _, _, _, _, _, _, _, _, _, _ => none
  | k + 1, x44, x45, x46, x120000, x120001, x120002, x120003, x120004, x120005, x120006 => if x46 < x45 then (if 0 ≤ x46 then (if x46 < (x44.length : Int) then (if ((rd_T76 x44 x46).f0) > ((rd_T76 x44 x46).f1) then (some false) else (conf_fair.l0 k x44 x45 (wrap64 (x46 + 1)) x120000 x120001 x120002 x120003 x120004 x120005 x120006)) else (none)) else (none)) else (conf_fair.l1 k x120003 (x120003.length : Int) 0)
def conf_fair.l1 : Nat → List (S65) → Int → Int → Option (Bool)
  | 0, _, _, _ => none
  | k + 1, x57, x58, x59 => if x59 < x58 then (if 0 ≤ x59 then (if x59 < (x57.length : Int) then ((key_Right.f ((rd_T65 x57 x59).f0)).bind fun t128 => (if t128 = true then (conf_fair.l1 k x57 x58 (wrap64 (x59 + 1))) else (some false))) else (none)) else (none)) else (some true)
end
def conf_fair.f (k : Nat) (a0_0 : Int) (a0_1 : Int) (l0_2 : List (S76)) (l0_3 : List (S65)) (a0_4 : Int) (a0_5 : Int) (a0_6 : Int) : Option (Bool) := (addr_Fair.f a0_0 a0_1).bind fun t120 => (if t120 = true then ((conf_within.f a0_1 8 30).bind fun t121 => (if t121 = true then (if (l0_2.length : Int) > 4 then (conf_fair.j0 k true a0_0 a0_1 l0_2 l0_3 a0_4 a0_5 a0_6) else (if (l0_3.length : Int) > 8 then (conf_fair.j0 k true a0_0 a0_1 l0_2 l0_3 a0_4 a0_5 a0_6) else ((conf_within.f a0_4 0 99).bind fun t122 => (if t122 = true then ((conf_within.f a0_6 1 2147483648).bind fun t123 => (conf_fair.j0 k (!t123) a0_0 a0_1 l0_2 l0_3 a0_4 a0_5 a0_6)) else (conf_fair.j0 k true a0_0 a0_1 l0_2 l0_3 a0_4 a0_5 a0_6))))) else (conf_fair.j0 k true a0_0 a0_1 l0_2 l0_3 a0_4 a0_5 a0_6))) else (conf_fair.j0 k true a0_0 a0_1 l0_2 l0_3 a0_4 a0_5 a0_6))
noncomputable def conf_fair.cx : Cx := ⟨Try.prog, tys, glo, 68, Try.f61, [.tmp 2], 0⟩
set_option maxHeartbeats 16000000 in
set_option maxRecDepth 100000 in
theorem conf_fair.ok {k : Nat} {a0_0 : Int} {a0_1 : Int} {l0_2 : List (S76)} {l0_3 : List (S65)} {a0_4 : Int} {a0_5 : Int} {a0_6 : Int} {r0 : Bool} (H : conf_fair.f k a0_0 a0_1 l0_2 l0_3 a0_4 a0_5 a0_6 = some r0) : CallOK Try.prog glo 61 [.agg [.imm (.int .i64 a0_0), .imm (.int .i64 a0_1), vS76 l0_2, vS65 l0_3, .imm (.int .i64 a0_4), .imm (.int .i64 a0_5), .imm (.int .i64 a0_6)]] (.imm (.bool r0)) := by
  unfold conf_fair.f at H
  refine CallOK.of (c := conf_fair.cx) Try.func61 (show (conf_fair.cx).fn.body = some _ from rfl) rfl rfl (Nat.le_of_ble_eq_true rfl) rfl ?_
  repeat' (first
    | ((with_reducible have hJ : conf_fair.j0 k _ _ _ _ _ _ _ _ = some _ := H); clear hJ; (rcases k with _ | k); (rw [conf_fair.j0] at H; cases H); (rw [conf_fair.j0] at H))
    | ((with_reducible have hJ : conf_fair.j0 k0 _ _ _ _ _ _ _ _ = some _ := H); clear hJ; (rcases k0 with _ | k0); (rw [conf_fair.j0] at H; cases H); (rw [conf_fair.j0] at H))
    | ((with_reducible have hJ : conf_fair.j0 k1 _ _ _ _ _ _ _ _ = some _ := H); clear hJ; (rcases k1 with _ | k1); (rw [conf_fair.j0] at H; cases H); (rw [conf_fair.j0] at H))
    | ((with_reducible replace H := some_ite H); obtain ⟨_, H⟩ := H)
    | (with_reducible replace H := true_ite H)
    | (with_reducible replace H := false_ite H)
    | ((with_reducible have hb := bool_ite H); clear H; rcases hb with ⟨e_, H⟩ | ⟨e_, H⟩ <;> subst e_)
    | ((with_reducible have hb := bool_iteN H); clear H; rcases hb with ⟨e_, H⟩ | ⟨e_, H⟩ <;> subst e_)
    | ((with_reducible apply ROps.pure); (case hop => rfl); (case hw => rfl); (case hdst => rfl); (case hd => rfl))
    | (with_reducible apply ROps.nil)
    | (with_reducible apply Runs.seq)
    | (with_reducible apply Runs.region tysOK)
    | (with_reducible apply Runs.block)
    | (with_reducible apply Runs.skip)
    | (with_reducible apply Runs.inBlock)
    | (with_reducible apply Runs.scope)
    | (with_reducible apply Runs.inScope)
    | (with_reducible apply Runs.label)
    | ((with_reducible apply Runs.condT); (case ho => rfl))
    | ((with_reducible apply Runs.condF); (case ho => rfl))
    | ((with_reducible apply Runs.exit); (case he => rfl))
    | ((with_reducible apply ROps.store); (case hop => rfl); (case hp => rfl); (case hR => rfl); (case hc => rfl); (case hl => first | (dsimp only [setR_one, setR, Nat.beq, cond]; done) | (dsimp only [setR_one, setR, Nat.beq, cond]; rfl) | rfl); (case hl' => first | (dsimp only [List.take, List.drop, List.append, List.nil_append, List.cons_append, List.map, List.length, Nat.add]; rfl) | rfl); (case hw => rfl); (all_goals try rfl))
    | ((with_reducible apply ROps.cmp); (case hop => exact cmpX); (case hw => rfl); (case hdst => rfl); (case hd => rfl); (all_goals (intro h; first | (replace H := ite_pos_ h H) | (replace H := ite_neg_ h H) | (replace H := dec_pos h H) | (replace H := dec_neg h H) | (replace H := dec_t h H) | (replace H := dec_f h H) | (replace H := ite_pos_ (Decidable.not_not.1 h) H) | ((try simp only [rd_T65, rd_T76, rdOf] at h); (try simp only [rd_T65, rd_T76, rdOf] at H); (rw [decide_eq_true h] at H)) | ((try simp only [rd_T65, rd_T76, rdOf] at h); (try simp only [rd_T65, rd_T76, rdOf] at H); (rw [decide_eq_false h] at H)) | ((try simp only [rd_T65, rd_T76, rdOf] at h); (try simp only [rd_T65, rd_T76, rdOf] at H); (rw [if_pos h] at H)) | ((try simp only [rd_T65, rd_T76, rdOf] at h); (try simp only [rd_T65, rd_T76, rdOf] at H); (rw [if_neg h] at H)) | contradiction | skip)))
    | ((with_reducible apply ROps.val); (case hop => exact valX); (case hw => rfl); (case hdst => rfl); (case hd => rfl))
    | ((with_reducible apply ROps.idx); (case hop => rfl); (case hx => rfl); (case hi => rfl); (case he => rfl); (case hw => rfl); (case hdst => rfl); (case hd => rfl); (case h0 => first | assumption | omega); (case h1 => first | assumption | omega))
    | ((with_reducible apply ROps.alloc); (case hop => rfl); (case hw => rfl); (all_goals try rfl))
    | ((with_reducible apply ROps.box); (case hop => rfl); (case hx => rfl); (case hrf => rfl); (case hw => rfl); (all_goals try rfl))
    | ((with_reducible apply ROps.off); (case hw => rfl); (case hdst => rfl); (case hd => rfl))
    | ((with_reducible have hB : (conf_within.f _ _ _).bind _ = some _ := H); clear hB; (replace H := bind_some' H); (obtain ⟨t_, H1, H⟩ := H); (try dsimp only at H); (with_reducible apply ROps.call); (case hop => rfl); (case hc => exact conf_within.ok H1); (case ha => exact argsX); (case hw => rfl); (case hdst => rfl); (case hd => rfl))
    | ((with_reducible have hB : (key_Right.f _).bind _ = some _ := H); clear hB; (replace H := bind_some' H); (obtain ⟨t_, H1, H⟩ := H); (try dsimp only at H); (with_reducible apply ROps.call); (case hop => rfl); (case hc => exact key_Right.ok H1); (case ha => exact argsX); (case hw => rfl); (case hdst => rfl); (case hd => rfl))
    | ((with_reducible have hB : (addr_Fair.f _ _).bind _ = some _ := H); clear hB; (replace H := bind_some' H); (obtain ⟨t_, H1, H⟩ := H); (try dsimp only at H); (with_reducible apply ROps.call); (case hop => rfl); (case hc => exact addr_Fair.ok H1); (case ha => exact argsX); (case hw => rfl); (case hdst => rfl); (case hd => rfl))
    | ((with_reducible apply Runs.loopK1 ((fun i0 i1 i2 i3 i4 i5 i6 i7 i8 => fun kk (v0_46 : Int) => conf_fair.l0 kk i0 i1 v0_46 i2 i3 i4 i5 i6 i7 i8) _ _ _ _ _ _ _ _ _) [1, 44, 45] [] (fun b v0_46 => [(46, .imm (.int .i64 v0_46))]) (fun v0_46 => []) _ _ [] H); (case h0 => intros; rfl); (any_goals (clear H; intro k0 hk0 ih0 v0_46 H; replace H : conf_fair.l0 (k0 + 1) _ _ v0_46 _ _ _ _ _ _ _ = some _ := H; rw [conf_fair.l0] at H)))
    | (with_reducible apply ih0 _ _ [] _ _ (by omega) H)
    | ((with_reducible apply Runs.loopK1 ((fun i0 i1 => fun kk (v1_59 : Int) => conf_fair.l1 kk i0 i1 v1_59) _ _) [57, 58] [] (fun b v1_59 => [(59, .imm (.int .i64 v1_59))]) (fun v1_59 => []) _ _ [] H); (case h0 => intros; rfl); (any_goals (clear H; intro k1 hk1 ih1 v1_59 H; replace H : conf_fair.l1 (k1 + 1) _ _ v1_59 = some _ := H; rw [conf_fair.l1] at H)))
    | (with_reducible apply ih1 _ _ [] _ _ (by omega) H)
    | ((with_reducible apply Runs.retP tysOK); (case hrs => rfl); (case h => rfl); (case hr => (cases H; exact refX)); (case hx => rfl))
    | exact leRX)
end Go.Proofs.Ytopbcamlagdieaa.PStats
set_option linter.unusedVariables false
set_option linter.unusedSimpArgs false
namespace Go.Proofs.Ytopbcamlagdieaa.PStats
open Go.RowKit Go.Proofs.YtopbcamlagdieaaW.PrintWords Go.Proofs.YtopbcamlagdieaaW.PrintLast Go.Proofs.YtopbcamlagdieaaW.PrintMore Go.Proofs.Ytopbcamlagdieaa.Abs
/-! ### conf_form: function 35 -/
mutual
def conf_form.j0 : Nat → Bool → Int → Int → List (S56) → Option (Bool)
  | 0, _, _, _, _ => none
  | k + 1, x22, x130000, x130001, x130002 => if x22 = true then (some false) else (conf_form.l0 k x130002 (x130002.length : Int) 0 x130000 x130001 x130002)
def conf_form.l0 : Nat → List (S56) → Int → Int → Int → Int → List (S56) → Option (Bool)
  | 0, _, _, _, _, _, _ => none
  | k + 1, x24, x25, x26, x130000, x130001, x130002 => if x26 < x25 then (if 0 ≤ x26 then (if x26 < (x24.length : Int) then ((conf_within.f (((rd_T56 x24 x26).f0).length : Int) 1 4).bind fun t134 => (if t134 = true then (conf_form.l0 k x24 x25 (wrap64 (x26 + 1)) x130000 x130001 x130002) else (some false))) else (none)) else (none)) else ((conf_spots.f k x130000 x130001 x130002).bind fun t135 => (conf_form.l1 k t135 (t135.length : Int) 0))
def conf_form.l1 : Nat → List (S86) → Int → Int → Option (Bool)
  | 0, _, _, _ => none
  | k + 1, x37, x38, x39 => if x39 < x38 then (if 0 ≤ x39 then (if x39 < (x37.length : Int) then ((conf_fair.f k ((rd_T86 x37 x39).f2.f0) ((rd_T86 x37 x39).f2.f1) ((rd_T86 x37 x39).f2.f2) ((rd_T86 x37 x39).f2.f3) ((rd_T86 x37 x39).f2.f4) ((rd_T86 x37 x39).f2.f5) ((rd_T86 x37 x39).f2.f6)).bind fun t140 => (if t140 = true then (conf_form.l1 k x37 x38 (wrap64 (x39 + 1))) else (some false))) else (none)) else (none)) else (some true)
end
def conf_form.f (k : Nat) (a0_0 : Int) (a0_1 : Int) (l0_2 : List (S56)) : Option (Bool) := (addr_Right.f a0_0).bind fun t130 => (if t130 = true then ((conf_within.f a0_1 1 2147483648).bind fun t131 => (if t131 = true then (conf_form.j0 k (decide ((l0_2.length : Int) > 4)) a0_0 a0_1 l0_2) else (conf_form.j0 k true a0_0 a0_1 l0_2))) else (conf_form.j0 k true a0_0 a0_1 l0_2))
noncomputable def conf_form.cx : Cx := ⟨Try.prog, tys, glo, 48, Try.f35, [.tmp 2], 0⟩
set_option maxHeartbeats 16000000 in
set_option maxRecDepth 100000 in
theorem conf_form.ok {k : Nat} {a0_0 : Int} {a0_1 : Int} {l0_2 : List (S56)} {r0 : Bool} (H : conf_form.f k a0_0 a0_1 l0_2 = some r0) : CallOK Try.prog glo 35 [.agg [.imm (.int .i64 a0_0), .imm (.int .i64 a0_1), vS56 l0_2]] (.imm (.bool r0)) := by
  unfold conf_form.f at H
  refine CallOK.of (c := conf_form.cx) Try.func35 (show (conf_form.cx).fn.body = some _ from rfl) rfl rfl (Nat.le_of_ble_eq_true rfl) rfl ?_
  repeat' (first
    | ((with_reducible have hJ : conf_form.j0 k _ _ _ _ = some _ := H); clear hJ; (rcases k with _ | k); (rw [conf_form.j0] at H; cases H); (rw [conf_form.j0] at H))
    | ((with_reducible have hJ : conf_form.j0 k0 _ _ _ _ = some _ := H); clear hJ; (rcases k0 with _ | k0); (rw [conf_form.j0] at H; cases H); (rw [conf_form.j0] at H))
    | ((with_reducible have hJ : conf_form.j0 k1 _ _ _ _ = some _ := H); clear hJ; (rcases k1 with _ | k1); (rw [conf_form.j0] at H; cases H); (rw [conf_form.j0] at H))
    | ((with_reducible replace H := some_ite H); obtain ⟨_, H⟩ := H)
    | (with_reducible replace H := some_bind_ H)
    | (with_reducible replace H := true_ite H)
    | (with_reducible replace H := false_ite H)
    | ((with_reducible have hb := bool_ite H); clear H; rcases hb with ⟨e_, H⟩ | ⟨e_, H⟩ <;> subst e_)
    | ((with_reducible apply ROps.pure); (case hop => rfl); (case hw => rfl); (case hdst => rfl); (case hd => rfl))
    | (with_reducible apply ROps.nil)
    | (with_reducible apply Runs.seq)
    | (with_reducible apply Runs.region tysOK)
    | (with_reducible apply Runs.block)
    | (with_reducible apply Runs.skip)
    | (with_reducible apply Runs.inBlock)
    | (with_reducible apply Runs.scope)
    | (with_reducible apply Runs.inScope)
    | (with_reducible apply Runs.label)
    | ((with_reducible apply Runs.condT); (case ho => rfl))
    | ((with_reducible apply Runs.condF); (case ho => rfl))
    | ((with_reducible apply Runs.exit); (case he => rfl))
    | ((with_reducible apply ROps.store); (case hop => rfl); (case hp => rfl); (case hR => rfl); (case hc => rfl); (case hl => first | (dsimp only [setR_one, setR, Nat.beq, cond]; done) | (dsimp only [setR_one, setR, Nat.beq, cond]; rfl) | rfl); (case hl' => first | (dsimp only [List.take, List.drop, List.append, List.nil_append, List.cons_append, List.map, List.length, Nat.add]; rfl) | rfl); (case hw => rfl); (all_goals try rfl))
    | ((with_reducible apply ROps.cmp); (case hop => exact cmpX); (case hw => rfl); (case hdst => rfl); (case hd => rfl); (all_goals (intro h; first | (replace H := ite_pos_ h H) | (replace H := ite_neg_ h H) | (replace H := dec_pos h H) | (replace H := dec_neg h H) | (replace H := dec_t h H) | (replace H := dec_f h H) | (replace H := ite_pos_ (Decidable.not_not.1 h) H) | ((try simp only [rd_T56, rd_T86, rdOf] at h); (try simp only [rd_T56, rd_T86, rdOf] at H); (rw [decide_eq_true h] at H)) | ((try simp only [rd_T56, rd_T86, rdOf] at h); (try simp only [rd_T56, rd_T86, rdOf] at H); (rw [decide_eq_false h] at H)) | ((try simp only [rd_T56, rd_T86, rdOf] at h); (try simp only [rd_T56, rd_T86, rdOf] at H); (rw [if_pos h] at H)) | ((try simp only [rd_T56, rd_T86, rdOf] at h); (try simp only [rd_T56, rd_T86, rdOf] at H); (rw [if_neg h] at H)) | contradiction | skip)))
    | ((with_reducible apply ROps.val); (case hop => exact valX); (case hw => rfl); (case hdst => rfl); (case hd => rfl))
    | ((with_reducible apply ROps.idx); (case hop => rfl); (case hx => rfl); (case hi => rfl); (case he => rfl); (case hw => rfl); (case hdst => rfl); (case hd => rfl); (case h0 => first | assumption | omega); (case h1 => first | assumption | omega))
    | ((with_reducible apply ROps.alloc); (case hop => rfl); (case hw => rfl); (all_goals try rfl))
    | ((with_reducible apply ROps.box); (case hop => rfl); (case hx => rfl); (case hrf => rfl); (case hw => rfl); (all_goals try rfl))
    | ((with_reducible apply ROps.off); (case hw => rfl); (case hdst => rfl); (case hd => rfl))
    | ((with_reducible have hB : (addr_Right.f _).bind _ = some _ := H); clear hB; (replace H := bind_some' H); (obtain ⟨t_, H1, H⟩ := H); (try dsimp only at H); (with_reducible apply ROps.call); (case hop => rfl); (case hc => exact addr_Right.ok H1); (case ha => exact argsX); (case hw => rfl); (case hdst => rfl); (case hd => rfl))
    | ((with_reducible have hB : (conf_within.f _ _ _).bind _ = some _ := H); clear hB; (replace H := bind_some' H); (obtain ⟨t_, H1, H⟩ := H); (try dsimp only at H); (with_reducible apply ROps.call); (case hop => rfl); (case hc => exact conf_within.ok H1); (case ha => exact argsX); (case hw => rfl); (case hdst => rfl); (case hd => rfl))
    | ((with_reducible have hB : (conf_spots.f _ _ _ _).bind _ = some _ := H); clear hB; (replace H := bind_some' H); (obtain ⟨t_, H1, H⟩ := H); (try dsimp only at H); (with_reducible apply ROps.call); (case hop => rfl); (case hc => exact conf_spots.ok H1); (case ha => exact argsX); (case hw => rfl); (case hdst => rfl); (case hd => rfl))
    | ((with_reducible have hB : (conf_fair.f _ _ _ _ _ _ _ _).bind _ = some _ := H); clear hB; (replace H := bind_some' H); (obtain ⟨t_, H1, H⟩ := H); (try dsimp only at H); (with_reducible apply ROps.call); (case hop => rfl); (case hc => exact conf_fair.ok H1); (case ha => exact argsX); (case hw => rfl); (case hdst => rfl); (case hd => rfl))
    | ((with_reducible apply Runs.loopK1 ((fun i0 i1 i2 i3 i4 => fun kk (v0_26 : Int) => conf_form.l0 kk i0 i1 v0_26 i2 i3 i4) _ _ _ _ _) [1, 24, 25] [] (fun b v0_26 => [(26, .imm (.int .i64 v0_26))]) (fun v0_26 => []) _ _ [] H); (case h0 => intros; rfl); (any_goals (clear H; intro k0 hk0 ih0 v0_26 H; replace H : conf_form.l0 (k0 + 1) _ _ v0_26 _ _ _ = some _ := H; rw [conf_form.l0] at H)))
    | (with_reducible apply ih0 _ _ [] _ _ (by omega) H)
    | ((with_reducible apply Runs.loopK1 ((fun i0 i1 => fun kk (v1_39 : Int) => conf_form.l1 kk i0 i1 v1_39) _ _) [37, 38] [] (fun b v1_39 => [(39, .imm (.int .i64 v1_39))]) (fun v1_39 => []) _ _ [] H); (case h0 => intros; rfl); (any_goals (clear H; intro k1 hk1 ih1 v1_39 H; replace H : conf_form.l1 (k1 + 1) _ _ v1_39 = some _ := H; rw [conf_form.l1] at H)))
    | (with_reducible apply ih1 _ _ [] _ _ (by omega) H)
    | ((with_reducible apply Runs.retP tysOK); (case hrs => rfl); (case h => rfl); (case hr => (cases H; exact refX)); (case hx => rfl))
    | exact leRX)
end Go.Proofs.Ytopbcamlagdieaa.PStats
set_option linter.unusedVariables false
set_option linter.unusedSimpArgs false
namespace Go.Proofs.Ytopbcamlagdieaa.PStats
open Go.RowKit Go.Proofs.YtopbcamlagdieaaW.PrintWords Go.Proofs.YtopbcamlagdieaaW.PrintLast Go.Proofs.YtopbcamlagdieaaW.PrintMore Go.Proofs.Ytopbcamlagdieaa.Abs
/-! ### addr_Has: function 39 -/
def addr_Has.f (a0 : Int) (a1 : Int) (a2 : Int) : Option (Bool) := (addr_Fair.f a0 a1).bind fun t141 => (if t141 = true then ((addr_Right.f a2).bind fun t142 => (if t142 = true then ((addr_mask.f a1).bind fun t143 => (some ((Go.bits .and .i64 a2 t143) == a0))) else (some false))) else (some false))
noncomputable def addr_Has.cx : Cx := ⟨Try.prog, tys, glo, 22, Try.f39, [.tmp 6], 0⟩
set_option maxHeartbeats 16000000 in
set_option maxRecDepth 100000 in
theorem addr_Has.ok {a0 : Int} {a1 : Int} {a2 : Int} {r0 : Bool} (H : addr_Has.f a0 a1 a2 = some r0) : CallOK Try.prog glo 39 [.imm (.int .i64 a0), .imm (.int .i64 a1), .imm (.int .i64 a2)] (.imm (.bool r0)) := by
  unfold addr_Has.f at H
  refine CallOK.of (c := addr_Has.cx) Try.func39 (show (addr_Has.cx).fn.body = some _ from rfl) rfl rfl (Nat.le_of_ble_eq_true rfl) rfl ?_
  repeat' (first
    | ((with_reducible replace H := some_ite H); obtain ⟨_, H⟩ := H)
    | (with_reducible replace H := some_bind_ H)
    | (with_reducible replace H := true_ite H)
    | (with_reducible replace H := false_ite H)
    | ((with_reducible have hb := bool_ite H); clear H; rcases hb with ⟨e_, H⟩ | ⟨e_, H⟩ <;> subst e_)
    | ((with_reducible apply ROps.pure); (case hop => rfl); (case hw => rfl); (case hdst => rfl); (case hd => rfl))
    | (with_reducible apply ROps.nil)
    | (with_reducible apply Runs.seq)
    | (with_reducible apply Runs.region tysOK)
    | (with_reducible apply Runs.scope)
    | (with_reducible apply Runs.inScope)
    | (with_reducible apply Runs.label)
    | ((with_reducible apply ROps.cmp); (case hop => exact cmpX); (case hw => rfl); (case hdst => rfl); (case hd => rfl); (all_goals (intro h; first | (replace H := ite_pos_ h H) | (replace H := ite_neg_ h H) | (replace H := dec_pos h H) | (replace H := dec_neg h H) | (replace H := dec_t h H) | (replace H := dec_f h H) | (replace H := beq_pos h H) | (replace H := beq_neg h H) | (replace H := beq_tt h H) | (replace H := beq_ff h H) | (replace H := ite_pos_ (Decidable.not_not.1 h) H) | (replace H := beq_pos (Decidable.not_not.1 h) H) | (replace H := beq_tt (Decidable.not_not.1 h) H) | ((try simp only [rdOf] at h); (try simp only [rdOf] at H); (rw [decide_eq_true h] at H)) | ((try simp only [rdOf] at h); (try simp only [rdOf] at H); (rw [decide_eq_false h] at H)) | ((try simp only [rdOf] at h); (try simp only [rdOf] at H); (rw [beq_t h] at H)) | ((try simp only [rdOf] at h); (try simp only [rdOf] at H); (rw [beq_f h] at H)) | ((try simp only [rdOf] at h); (try simp only [rdOf] at H); (rw [beq_t (Decidable.not_not.1 h)] at H)) | ((try simp only [rdOf] at h); (try simp only [rdOf] at H); (rw [if_pos h] at H)) | ((try simp only [rdOf] at h); (try simp only [rdOf] at H); (rw [if_neg h] at H)) | contradiction | skip)))
    | ((with_reducible apply ROps.val); (case hop => exact valX); (case hw => rfl); (case hdst => rfl); (case hd => rfl))
    | ((first | (with_reducible apply ROps.eqS; case hop => rfl) | (with_reducible apply ROps.neS; case hop => rfl)); (case ht => rfl); (case hx => rfl); (case hy => rfl); (case hl => rfl); (case hr => rfl); (case hw => rfl); (case hdst => rfl); (case hd => rfl); (all_goals (intro h; first | (replace H := ite_posF H h) | (replace H := ite_negF H h) | (dsimp only [eqP, eqA] at h) | skip)))
    | ((with_reducible apply ROps.off); (case hw => rfl); (case hdst => rfl); (case hd => rfl))
    | ((with_reducible have hB : (addr_Right.f _).bind _ = some _ := H); clear hB; (replace H := bind_some' H); (obtain ⟨t_, H1, H⟩ := H); (try dsimp only at H); (with_reducible apply ROps.call); (case hop => rfl); (case hc => exact addr_Right.ok H1); (case ha => exact argsX); (case hw => rfl); (case hdst => rfl); (case hd => rfl))
    | ((with_reducible have hB : (addr_Fair.f _ _).bind _ = some _ := H); clear hB; (replace H := bind_some' H); (obtain ⟨t_, H1, H⟩ := H); (try dsimp only at H); (with_reducible apply ROps.call); (case hop => rfl); (case hc => exact addr_Fair.ok H1); (case ha => exact argsX); (case hw => rfl); (case hdst => rfl); (case hd => rfl))
    | ((with_reducible have hB : (addr_mask.f _).bind _ = some _ := H); clear hB; (replace H := bind_some' H); (obtain ⟨t_, H1, H⟩ := H); (try dsimp only at H); (with_reducible apply ROps.call); (case hop => rfl); (case hc => exact addr_mask.ok H1); (case ha => exact argsX); (case hw => rfl); (case hdst => rfl); (case hd => rfl))
    | ((with_reducible apply Runs.retP tysOK); (case hrs => rfl); (case h => rfl); (case hr => (cases H; exact refX)); (case hx => rfl))
    | exact leRX)
end Go.Proofs.Ytopbcamlagdieaa.PStats
set_option linter.unusedVariables false
set_option linter.unusedSimpArgs false
namespace Go.Proofs.Ytopbcamlagdieaa.PStats
open Go.RowKit Go.Proofs.YtopbcamlagdieaaW.PrintWords Go.Proofs.YtopbcamlagdieaaW.PrintLast Go.Proofs.YtopbcamlagdieaaW.PrintMore Go.Proofs.Ytopbcamlagdieaa.Abs
/-! ### conf_has: function 50 -/
def conf_has.f (a0_0 : Int) (a0_1 : Int) (a1 : Int) : Option (Bool) := (conf_within.f a1 a0_0 a0_1).bind fun t145 => (some t145)
noncomputable def conf_has.cx : Cx := ⟨Try.prog, tys, glo, 11, Try.f50, [.tmp 4], 0⟩
set_option maxHeartbeats 16000000 in
set_option maxRecDepth 100000 in
theorem conf_has.ok {a0_0 : Int} {a0_1 : Int} {a1 : Int} {r0 : Bool} (H : conf_has.f a0_0 a0_1 a1 = some r0) : CallOK Try.prog glo 50 [.agg [.imm (.int .i64 a0_0), .imm (.int .i64 a0_1)], .imm (.int .i64 a1)] (.imm (.bool r0)) := by
  unfold conf_has.f at H
  refine CallOK.of (c := conf_has.cx) Try.func50 (show (conf_has.cx).fn.body = some _ from rfl) rfl rfl (Nat.le_of_ble_eq_true rfl) rfl ?_
  repeat' (first
    | ((with_reducible replace H := some_ite H); obtain ⟨_, H⟩ := H)
    | ((with_reducible apply ROps.pure); (case hop => rfl); (case hw => rfl); (case hdst => rfl); (case hd => rfl))
    | (with_reducible apply ROps.nil)
    | (with_reducible apply Runs.seq)
    | (with_reducible apply Runs.region tysOK)
    | (with_reducible apply Runs.scope)
    | (with_reducible apply Runs.inScope)
    | (with_reducible apply Runs.label)
    | ((with_reducible apply ROps.box); (case hop => rfl); (case hx => rfl); (case hrf => rfl); (case hw => rfl); (all_goals try rfl))
    | ((with_reducible have hB : (conf_within.f _ _ _).bind _ = some _ := H); clear hB; (replace H := bind_some' H); (obtain ⟨t_, H1, H⟩ := H); (try dsimp only at H); (with_reducible apply ROps.call); (case hop => rfl); (case hc => exact conf_within.ok H1); (case ha => exact argsX); (case hw => rfl); (case hdst => rfl); (case hd => rfl))
    | ((with_reducible apply Runs.retP tysOK); (case hrs => rfl); (case h => rfl); (case hr => (cases H; exact refX)); (case hx => rfl))
    | exact leRX)
end Go.Proofs.Ytopbcamlagdieaa.PStats
set_option linter.unusedVariables false
set_option linter.unusedSimpArgs false
namespace Go.Proofs.Ytopbcamlagdieaa.PStats
open Go.RowKit Go.Proofs.YtopbcamlagdieaaW.PrintWords Go.Proofs.YtopbcamlagdieaaW.PrintLast Go.Proofs.YtopbcamlagdieaaW.PrintMore Go.Proofs.Ytopbcamlagdieaa.Abs
/-! ### addr_Last: function 77 -/
def addr_Last.f (a0 : Int) (a1 : Int) : Option (Int × Int) := (addr_Fair.f a0 a1).bind fun t146 => (if t146 = true then ((addr_mask.f a1).bind fun t147 => (some (Go.bits .or .i64 a0 (Go.bits .andNot .i64 4294967295 t147), 0))) else (some (0, 1)))
noncomputable def addr_Last.cx : Cx := ⟨Try.prog, tys, glo, 15, Try.f77, [.tmp 4, .tmp 5], 0⟩
set_option maxHeartbeats 16000000 in
set_option maxRecDepth 100000 in
theorem addr_Last.ok {a0 : Int} {a1 : Int} {r0 : Int} {r1 : Int} (H : addr_Last.f a0 a1 = some (r0, r1)) : CallOK Try.prog glo 77 [.imm (.int .i64 a0), .imm (.int .i64 a1)] (.tup [.imm (.int .i64 r0), .imm (.int .i64 r1)]) := by
  unfold addr_Last.f at H
  refine CallOK.of (c := addr_Last.cx) Try.func77 (show (addr_Last.cx).fn.body = some _ from rfl) rfl rfl (Nat.le_of_ble_eq_true rfl) rfl ?_
  repeat' (first
    | ((with_reducible replace H := some_ite H); obtain ⟨_, H⟩ := H)
    | (with_reducible replace H := some_bind_ H)
    | (with_reducible replace H := true_ite H)
    | (with_reducible replace H := false_ite H)
    | ((with_reducible have hb := bool_ite H); clear H; rcases hb with ⟨e_, H⟩ | ⟨e_, H⟩ <;> subst e_)
    | ((with_reducible apply ROps.pure); (case hop => rfl); (case hw => rfl); (case hdst => rfl); (case hd => rfl))
    | (with_reducible apply ROps.nil)
    | (with_reducible apply Runs.seq)
    | (with_reducible apply Runs.region tysOK)
    | (with_reducible apply Runs.skip)
    | (with_reducible apply Runs.scope)
    | (with_reducible apply Runs.inScope)
    | (with_reducible apply Runs.label)
    | ((with_reducible apply Runs.condT); (case ho => rfl))
    | ((with_reducible apply Runs.condF); (case ho => rfl))
    | ((with_reducible apply ROps.val); (case hop => exact valX); (case hw => rfl); (case hdst => rfl); (case hd => rfl))
    | ((with_reducible have hB : (addr_Fair.f _ _).bind _ = some _ := H); clear hB; (replace H := bind_some' H); (obtain ⟨t_, H1, H⟩ := H); (try dsimp only at H); (with_reducible apply ROps.call); (case hop => rfl); (case hc => exact addr_Fair.ok H1); (case ha => exact argsX); (case hw => rfl); (case hdst => rfl); (case hd => rfl))
    | ((with_reducible have hB : (addr_mask.f _).bind _ = some _ := H); clear hB; (replace H := bind_some' H); (obtain ⟨t_, H1, H⟩ := H); (try dsimp only at H); (with_reducible apply ROps.call); (case hop => rfl); (case hc => exact addr_mask.ok H1); (case ha => exact argsX); (case hw => rfl); (case hdst => rfl); (case hd => rfl))
    | ((with_reducible apply Runs.retP tysOK); (case hrs => rfl); (case h => rfl); (case hr => (cases H; exact refX)); (case hx => rfl))
    | exact leRX)
end Go.Proofs.Ytopbcamlagdieaa.PStats
set_option linter.unusedVariables false
set_option linter.unusedSimpArgs false
namespace Go.Proofs.Ytopbcamlagdieaa.PStats
open Go.RowKit Go.Proofs.YtopbcamlagdieaaW.PrintWords Go.Proofs.YtopbcamlagdieaaW.PrintLast Go.Proofs.YtopbcamlagdieaaW.PrintMore Go.Proofs.Ytopbcamlagdieaa.Abs
/-! ### conf_inside: function 62 -/
def conf_inside.f (a0_0 : Int) (a0_1 : Int) (l0_2 : List (S76)) (l0_3 : List (S65)) (a0_4 : Int) (a0_5 : Int) (a0_6 : Int) (a1 : Int) : Option (Bool) := (addr_Last.f a0_0 a0_1).bind fun bt149 => (if a1 > a0_0 then (some (decide (a1 < bt149.1))) else (some false))
noncomputable def conf_inside.cx : Cx := ⟨Try.prog, tys, glo, 24, Try.f62, [.tmp 4], 0⟩
set_option maxHeartbeats 16000000 in
set_option maxRecDepth 100000 in
theorem conf_inside.ok {a0_0 : Int} {a0_1 : Int} {l0_2 : List (S76)} {l0_3 : List (S65)} {a0_4 : Int} {a0_5 : Int} {a0_6 : Int} {a1 : Int} {r0 : Bool} (H : conf_inside.f a0_0 a0_1 l0_2 l0_3 a0_4 a0_5 a0_6 a1 = some r0) : CallOK Try.prog glo 62 [.agg [.imm (.int .i64 a0_0), .imm (.int .i64 a0_1), vS76 l0_2, vS65 l0_3, .imm (.int .i64 a0_4), .imm (.int .i64 a0_5), .imm (.int .i64 a0_6)], .imm (.int .i64 a1)] (.imm (.bool r0)) := by
  unfold conf_inside.f at H
  refine CallOK.of (c := conf_inside.cx) Try.func62 (show (conf_inside.cx).fn.body = some _ from rfl) rfl rfl (Nat.le_of_ble_eq_true rfl) rfl ?_
  repeat' (first
    | ((with_reducible replace H := some_ite H); obtain ⟨_, H⟩ := H)
    | (with_reducible replace H := true_ite H)
    | (with_reducible replace H := false_ite H)
    | ((with_reducible have hb := bool_ite H); clear H; rcases hb with ⟨e_, H⟩ | ⟨e_, H⟩ <;> subst e_)
    | ((with_reducible apply ROps.pure); (case hop => rfl); (case hw => rfl); (case hdst => rfl); (case hd => rfl))
    | (with_reducible apply ROps.nil)
    | (with_reducible apply Runs.seq)
    | (with_reducible apply Runs.region tysOK)
    | (with_reducible apply Runs.scope)
    | (with_reducible apply Runs.inScope)
    | (with_reducible apply Runs.label)
    | ((with_reducible apply ROps.cmp); (case hop => exact cmpX); (case hw => rfl); (case hdst => rfl); (case hd => rfl); (all_goals (intro h; first | (replace H := ite_pos_ h H) | (replace H := ite_neg_ h H) | (replace H := dec_pos h H) | (replace H := dec_neg h H) | (replace H := dec_t h H) | (replace H := dec_f h H) | (replace H := ite_pos_ (Decidable.not_not.1 h) H) | ((try simp only [rdOf] at h); (try simp only [rdOf] at H); (rw [decide_eq_true h] at H)) | ((try simp only [rdOf] at h); (try simp only [rdOf] at H); (rw [decide_eq_false h] at H)) | ((try simp only [rdOf] at h); (try simp only [rdOf] at H); (rw [if_pos h] at H)) | ((try simp only [rdOf] at h); (try simp only [rdOf] at H); (rw [if_neg h] at H)) | contradiction | skip)))
    | ((with_reducible apply ROps.box); (case hop => rfl); (case hx => rfl); (case hrf => rfl); (case hw => rfl); (all_goals try rfl))
    | ((with_reducible apply ROps.off); (case hw => rfl); (case hdst => rfl); (case hd => rfl))
    | ((with_reducible have hB : (addr_Last.f _ _).bind _ = some _ := H); clear hB; (replace H := bind_some' H); (obtain ⟨⟨t_0, t_1⟩, H1, H⟩ := H); (try dsimp only at H); (with_reducible apply ROps.call); (case hop => rfl); (case hc => exact addr_Last.ok H1); (case ha => exact argsX); (case hw => rfl); (case hdst => rfl); (case hd => rfl))
    | ((with_reducible apply Runs.retP tysOK); (case hrs => rfl); (case h => rfl); (case hr => (cases H; exact refX)); (case hx => rfl))
    | exact leRX)
end Go.Proofs.Ytopbcamlagdieaa.PStats
set_option linter.unusedVariables false
set_option linter.unusedSimpArgs false
namespace Go.Proofs.Ytopbcamlagdieaa.PStats
open Go.RowKit Go.Proofs.YtopbcamlagdieaaW.PrintWords Go.Proofs.YtopbcamlagdieaaW.PrintLast Go.Proofs.YtopbcamlagdieaaW.PrintMore Go.Proofs.Ytopbcamlagdieaa.Abs
/-! ### conf_placed: function 36 -/
mutual
def conf_placed.l0 : Nat → List (S86) → Int → Int → Int → Int → List (S56) → Option (Bool)
  | 0, _, _, _, _, _, _ => none
  | k + 1, x10, x11, x12, x152000, x152001, x152002 => if x12 < x11 then (if 0 ≤ x12 then (if x12 < (x10.length : Int) then (conf_placed.l1 k x10 x11 x12 ((rd_T86 x10 x12).f2.f2) (((rd_T86 x10 x12).f2.f2).length : Int) 0 x152000 x152001 x152002 ((rd_T86 x10 x12).f0) ((rd_T86 x10 x12).f1) ((rd_T86 x10 x12).f2.f0) ((rd_T86 x10 x12).f2.f1) ((rd_T86 x10 x12).f2.f2) ((rd_T86 x10 x12).f2.f3) ((rd_T86 x10 x12).f2.f4) ((rd_T86 x10 x12).f2.f5) ((rd_T86 x10 x12).f2.f6)) else (none)) else (none)) else (some true)
def conf_placed.l1 : Nat → List (S86) → Int → Int → List (S76) → Int → Int → Int → Int → List (S56) → Int → Int → Int → Int → List (S76) → List (S65) → Int → Int → Int → Option (Bool)
  | 0, _, _, _, _, _, _, _, _, _, _, _, _, _, _, _, _, _, _ => none
  | k + 1, x10, x11, x12, x18, x19, x20, x152000, x152001, x152002, x157000, x157001, x157002, x157003, x157004, x157005, x157006, x157007, x157008 => if x20 < x19 then (if 0 ≤ x20 then (if x20 < (x18.length : Int) then ((conf_inside.f x157002 x157003 x157004 x157005 x157006 x157007 x157008 ((rd_T76 x18 x20).f0)).bind fun t159 => (if t159 = true then ((conf_inside.f x157002 x157003 x157004 x157005 x157006 x157007 x157008 ((rd_T76 x18 x20).f1)).bind fun t160 => (if t160 = true then ((conf_has.f ((rd_T76 x18 x20).f0) ((rd_T76 x18 x20).f1) x152000).bind fun t161 => (if t161 = true then (some false) else (conf_placed.l1 k x10 x11 x12 x18 x19 (wrap64 (x20 + 1)) x152000 x152001 x152002 x157000 x157001 x157002 x157003 x157004 x157005 x157006 x157007 x157008))) else (some false))) else (some false))) else (none)) else (none)) else (conf_placed.l2 k x10 x11 x12 x157005 (x157005.length : Int) 0 x152000 x152001 x152002 x157000 x157001 x157002 x157003 x157004 x157005 x157006 x157007 x157008)
def conf_placed.l2 : Nat → List (S86) → Int → Int → List (S65) → Int → Int → Int → Int → List (S56) → Int → Int → Int → Int → List (S76) → List (S65) → Int → Int → Int → Option (Bool)
  | 0, _, _, _, _, _, _, _, _, _, _, _, _, _, _, _, _, _, _ => none
  | k + 1, x10, x11, x12, x47, x48, x49, x152000, x152001, x152002, x157000, x157001, x157002, x157003, x157004, x157005, x157006, x157007, x157008 => if x49 < x48 then (if 0 ≤ x49 then (if x49 < (x47.length : Int) then ((conf_inside.f x157002 x157003 x157004 x157005 x157006 x157007 x157008 ((rd_T65 x47 x49).f1)).bind fun t164 => (if t164 = true then (if ((rd_T65 x47 x49).f1) = x152000 then (some false) else (conf_placed.l2 k x10 x11 x12 x47 x48 (wrap64 (x49 + 1)) x152000 x152001 x152002 x157000 x157001 x157002 x157003 x157004 x157005 x157006 x157007 x157008)) else (some false))) else (none)) else (none)) else (if x157007 = 0 then (conf_placed.l0 k x10 x11 (wrap64 (x12 + 1)) x152000 x152001 x152002) else ((addr_Has.f x157002 x157003 x157007).bind fun t165 => (if t165 = true then (conf_placed.l0 k x10 x11 (wrap64 (x12 + 1)) x152000 x152001 x152002) else (some false))))
end
def conf_placed.f (k : Nat) (a0_0 : Int) (a0_1 : Int) (l0_2 : List (S56)) : Option (Bool) := (conf_spots.f k a0_0 a0_1 l0_2).bind fun t152 => (conf_placed.l0 k t152 (t152.length : Int) 0 a0_0 a0_1 l0_2)
noncomputable def conf_placed.cx : Cx := ⟨Try.prog, tys, glo, 85, Try.f36, [.tmp 2], 0⟩
set_option maxHeartbeats 16000000 in
set_option maxRecDepth 100000 in
theorem conf_placed.ok {k : Nat} {a0_0 : Int} {a0_1 : Int} {l0_2 : List (S56)} {r0 : Bool} (H : conf_placed.f k a0_0 a0_1 l0_2 = some r0) : CallOK Try.prog glo 36 [.agg [.imm (.int .i64 a0_0), .imm (.int .i64 a0_1), vS56 l0_2]] (.imm (.bool r0)) := by
  unfold conf_placed.f at H
  refine CallOK.of (c := conf_placed.cx) Try.func36 (show (conf_placed.cx).fn.body = some _ from rfl) rfl rfl (Nat.le_of_ble_eq_true rfl) rfl ?_
  repeat' (first
    | ((with_reducible replace H := some_ite H); obtain ⟨_, H⟩ := H)
    | (with_reducible replace H := true_ite H)
    | (with_reducible replace H := false_ite H)
    | ((with_reducible have hb := bool_ite H); clear H; rcases hb with ⟨e_, H⟩ | ⟨e_, H⟩ <;> subst e_)
    | ((with_reducible apply ROps.pure); (case hop => rfl); (case hw => rfl); (case hdst => rfl); (case hd => rfl))
    | (with_reducible apply ROps.nil)
    | (with_reducible apply Runs.seq)
    | (with_reducible apply Runs.region tysOK)
    | (with_reducible apply Runs.block)
    | (with_reducible apply Runs.skip)
    | (with_reducible apply Runs.inBlock)
    | (with_reducible apply Runs.scope)
    | (with_reducible apply Runs.inScope)
    | (with_reducible apply Runs.label)
    | ((with_reducible apply Runs.condT); (case ho => rfl))
    | ((with_reducible apply Runs.condF); (case ho => rfl))
    | ((with_reducible apply Runs.exit); (case he => rfl))
    | ((with_reducible apply ROps.store); (case hop => rfl); (case hp => rfl); (case hR => rfl); (case hc => rfl); (case hl => first | (dsimp only [setR_one, setR, Nat.beq, cond]; done) | (dsimp only [setR_one, setR, Nat.beq, cond]; rfl) | rfl); (case hl' => first | (dsimp only [List.take, List.drop, List.append, List.nil_append, List.cons_append, List.map, List.length, Nat.add]; rfl) | rfl); (case hw => rfl); (all_goals try rfl))
    | ((with_reducible apply ROps.cmp); (case hop => exact cmpX); (case hw => rfl); (case hdst => rfl); (case hd => rfl); (all_goals (intro h; first | (replace H := ite_pos_ h H) | (replace H := ite_neg_ h H) | (replace H := dec_pos h H) | (replace H := dec_neg h H) | (replace H := dec_t h H) | (replace H := dec_f h H) | (replace H := beq_pos h H) | (replace H := beq_neg h H) | (replace H := beq_tt h H) | (replace H := beq_ff h H) | (replace H := ite_pos_ (Decidable.not_not.1 h) H) | (replace H := beq_pos (Decidable.not_not.1 h) H) | (replace H := beq_tt (Decidable.not_not.1 h) H) | ((try simp only [rd_T65, rd_T76, rd_T86, rdOf] at h); (try simp only [rd_T65, rd_T76, rd_T86, rdOf] at H); (rw [decide_eq_true h] at H)) | ((try simp only [rd_T65, rd_T76, rd_T86, rdOf] at h); (try simp only [rd_T65, rd_T76, rd_T86, rdOf] at H); (rw [decide_eq_false h] at H)) | ((try simp only [rd_T65, rd_T76, rd_T86, rdOf] at h); (try simp only [rd_T65, rd_T76, rd_T86, rdOf] at H); (rw [beq_t h] at H)) | ((try simp only [rd_T65, rd_T76, rd_T86, rdOf] at h); (try simp only [rd_T65, rd_T76, rd_T86, rdOf] at H); (rw [beq_f h] at H)) | ((try simp only [rd_T65, rd_T76, rd_T86, rdOf] at h); (try simp only [rd_T65, rd_T76, rd_T86, rdOf] at H); (rw [bne_t h] at H)) | ((try simp only [rd_T65, rd_T76, rd_T86, rdOf] at h); (try simp only [rd_T65, rd_T76, rd_T86, rdOf] at H); (rw [bne_f h] at H)) | ((try simp only [rd_T65, rd_T76, rd_T86, rdOf] at h); (try simp only [rd_T65, rd_T76, rd_T86, rdOf] at H); (rw [beq_t (Decidable.not_not.1 h)] at H)) | ((try simp only [rd_T65, rd_T76, rd_T86, rdOf] at h); (try simp only [rd_T65, rd_T76, rd_T86, rdOf] at H); (rw [bne_f (Decidable.not_not.1 h)] at H)) | ((try simp only [rd_T65, rd_T76, rd_T86, rdOf] at h); (try simp only [rd_T65, rd_T76, rd_T86, rdOf] at H); (rw [if_pos h] at H)) | ((try simp only [rd_T65, rd_T76, rd_T86, rdOf] at h); (try simp only [rd_T65, rd_T76, rd_T86, rdOf] at H); (rw [if_neg h] at H)) | contradiction | skip)))
    | ((with_reducible apply ROps.val); (case hop => exact valX); (case hw => rfl); (case hdst => rfl); (case hd => rfl))
    | ((first | (with_reducible apply ROps.eqS; case hop => rfl) | (with_reducible apply ROps.neS; case hop => rfl)); (case ht => rfl); (case hx => rfl); (case hy => rfl); (case hl => rfl); (case hr => rfl); (case hw => rfl); (case hdst => rfl); (case hd => rfl); (all_goals (intro h; first | (replace H := ite_posF H h) | (replace H := ite_negF H h) | (dsimp only [eqP, eqA] at h) | skip)))
    | ((with_reducible apply ROps.idx); (case hop => rfl); (case hx => rfl); (case hi => rfl); (case he => rfl); (case hw => rfl); (case hdst => rfl); (case hd => rfl); (case h0 => first | assumption | omega); (case h1 => first | assumption | omega))
    | ((with_reducible apply ROps.alloc); (case hop => rfl); (case hw => rfl); (all_goals try rfl))
    | ((with_reducible apply ROps.box); (case hop => rfl); (case hx => rfl); (case hrf => rfl); (case hw => rfl); (all_goals try rfl))
    | ((with_reducible apply ROps.off); (case hw => rfl); (case hdst => rfl); (case hd => rfl))
    | ((with_reducible have hB : (addr_Has.f _ _ _).bind _ = some _ := H); clear hB; (replace H := bind_some' H); (obtain ⟨t_, H1, H⟩ := H); (try dsimp only at H); (with_reducible apply ROps.call); (case hop => rfl); (case hc => exact addr_Has.ok H1); (case ha => exact argsX); (case hw => rfl); (case hdst => rfl); (case hd => rfl))
    | ((with_reducible have hB : (conf_has.f _ _ _).bind _ = some _ := H); clear hB; (replace H := bind_some' H); (obtain ⟨t_, H1, H⟩ := H); (try dsimp only at H); (with_reducible apply ROps.call); (case hop => rfl); (case hc => exact conf_has.ok H1); (case ha => exact argsX); (case hw => rfl); (case hdst => rfl); (case hd => rfl))
    | ((with_reducible have hB : (conf_spots.f _ _ _ _).bind _ = some _ := H); clear hB; (replace H := bind_some' H); (obtain ⟨t_, H1, H⟩ := H); (try dsimp only at H); (with_reducible apply ROps.call); (case hop => rfl); (case hc => exact conf_spots.ok H1); (case ha => exact argsX); (case hw => rfl); (case hdst => rfl); (case hd => rfl))
    | ((with_reducible have hB : (conf_inside.f _ _ _ _ _ _ _ _).bind _ = some _ := H); clear hB; (replace H := bind_some' H); (obtain ⟨t_, H1, H⟩ := H); (try dsimp only at H); (with_reducible apply ROps.call); (case hop => rfl); (case hc => exact conf_inside.ok H1); (case ha => exact argsX); (case hw => rfl); (case hdst => rfl); (case hd => rfl))
    | ((with_reducible apply Runs.loopK1 ((fun i0 i1 i2 i3 i4 => fun kk (v0_12 : Int) => conf_placed.l0 kk i0 i1 v0_12 i2 i3 i4) _ _ _ _ _) [1, 10, 11] [] (fun b v0_12 => [(12, .imm (.int .i64 v0_12))]) (fun v0_12 => []) _ _ [] H); (case h0 => intros; rfl); (any_goals (clear H; intro k0 hk0 ih0 v0_12 H; replace H : conf_placed.l0 (k0 + 1) _ _ v0_12 _ _ _ = some _ := H; rw [conf_placed.l0] at H)))
    | (with_reducible apply ih0 _ _ [] _ _ (by omega) H)
    | ((with_reducible apply Runs.loopK1 ((fun i0 i1 i2 i3 i4 i5 i6 i7 i8 i9 i10 i11 i12 i13 i14 i15 i16 => fun kk (v1_20 : Int) => conf_placed.l1 kk i0 i1 i2 i3 i4 v1_20 i5 i6 i7 i8 i9 i10 i11 i12 i13 i14 i15 i16) _ _ _ _ _ _ _ _ _ _ _ _ _ _ _ _ _) [1, 4, 10, 11, 12, 18, 19] [] (fun b v1_20 => [(20, .imm (.int .i64 v1_20))]) (fun v1_20 => []) _ _ [] H); (case h0 => intros; rfl); (any_goals (clear H; intro k1 hk1 ih1 v1_20 H; replace H : conf_placed.l1 (k1 + 1) _ _ _ _ _ v1_20 _ _ _ _ _ _ _ _ _ _ _ _ = some _ := H; rw [conf_placed.l1] at H)))
    | (with_reducible apply ih1 _ _ [] _ _ (by omega) H)
    | ((with_reducible apply Runs.loopK1 ((fun i0 i1 i2 i3 i4 i5 i6 i7 i8 i9 i10 i11 i12 i13 i14 i15 i16 => fun kk (v2_49 : Int) => conf_placed.l2 kk i0 i1 i2 i3 i4 v2_49 i5 i6 i7 i8 i9 i10 i11 i12 i13 i14 i15 i16) _ _ _ _ _ _ _ _ _ _ _ _ _ _ _ _ _) [1, 4, 10, 11, 12, 47, 48] [] (fun b v2_49 => [(49, .imm (.int .i64 v2_49))]) (fun v2_49 => []) _ _ [] H); (case h0 => intros; rfl); (any_goals (clear H; intro k2 hk2 ih2 v2_49 H; replace H : conf_placed.l2 (k2 + 1) _ _ _ _ _ v2_49 _ _ _ _ _ _ _ _ _ _ _ _ = some _ := H; rw [conf_placed.l2] at H)))
    | (with_reducible apply ih2 _ _ [] _ _ (by omega) H)
    | ((with_reducible apply Runs.retP tysOK); (case hrs => rfl); (case h => rfl); (case hr => (cases H; exact refX)); (case hx => rfl))
    | exact leRX)
end Go.Proofs.Ytopbcamlagdieaa.PStats
set_option linter.unusedVariables false
set_option linter.unusedSimpArgs false
namespace Go.Proofs.Ytopbcamlagdieaa.PStats
open Go.RowKit Go.Proofs.YtopbcamlagdieaaW.PrintWords Go.Proofs.YtopbcamlagdieaaW.PrintLast Go.Proofs.YtopbcamlagdieaaW.PrintMore Go.Proofs.Ytopbcamlagdieaa.Abs
/-! ### addr_Meet: function 78 -/
def addr_Meet.f (a0 : Int) (a1 : Int) (a2 : Int) (a3 : Int) : Option (Bool) := (addr_Fair.f a0 a1).bind fun t166 => (if t166 = true then ((addr_Fair.f a2 a3).bind fun t167 => (if t167 = true then ((addr_Has.f a0 a1 a2).bind fun t168 => (if t168 = true then (some true) else ((addr_Has.f a2 a3 a0).bind fun t169 => (some t169)))) else (some false))) else (some false))
noncomputable def addr_Meet.cx : Cx := ⟨Try.prog, tys, glo, 29, Try.f78, [.tmp 8], 0⟩
set_option maxHeartbeats 16000000 in
set_option maxRecDepth 100000 in
theorem addr_Meet.ok {a0 : Int} {a1 : Int} {a2 : Int} {a3 : Int} {r0 : Bool} (H : addr_Meet.f a0 a1 a2 a3 = some r0) : CallOK Try.prog glo 78 [.imm (.int .i64 a0), .imm (.int .i64 a1), .imm (.int .i64 a2), .imm (.int .i64 a3)] (.imm (.bool r0)) := by
  unfold addr_Meet.f at H
  refine CallOK.of (c := addr_Meet.cx) Try.func78 (show (addr_Meet.cx).fn.body = some _ from rfl) rfl rfl (Nat.le_of_ble_eq_true rfl) rfl ?_
  repeat' (first
    | ((with_reducible replace H := some_ite H); obtain ⟨_, H⟩ := H)
    | (with_reducible replace H := some_bind_ H)
    | (with_reducible replace H := true_ite H)
    | (with_reducible replace H := false_ite H)
    | ((with_reducible have hb := bool_ite H); clear H; rcases hb with ⟨e_, H⟩ | ⟨e_, H⟩ <;> subst e_)
    | ((with_reducible apply ROps.pure); (case hop => rfl); (case hw => rfl); (case hdst => rfl); (case hd => rfl))
    | (with_reducible apply ROps.nil)
    | (with_reducible apply Runs.seq)
    | (with_reducible apply Runs.region tysOK)
    | (with_reducible apply Runs.scope)
    | (with_reducible apply Runs.inScope)
    | (with_reducible apply Runs.label)
    | ((with_reducible apply ROps.off); (case hw => rfl); (case hdst => rfl); (case hd => rfl))
    | ((with_reducible have hB : (addr_Has.f _ _ _).bind _ = some _ := H); clear hB; (replace H := bind_some' H); (obtain ⟨t_, H1, H⟩ := H); (try dsimp only at H); (with_reducible apply ROps.call); (case hop => rfl); (case hc => exact addr_Has.ok H1); (case ha => exact argsX); (case hw => rfl); (case hdst => rfl); (case hd => rfl))
    | ((with_reducible have hB : (addr_Fair.f _ _).bind _ = some _ := H); clear hB; (replace H := bind_some' H); (obtain ⟨t_, H1, H⟩ := H); (try dsimp only at H); (with_reducible apply ROps.call); (case hop => rfl); (case hc => exact addr_Fair.ok H1); (case ha => exact argsX); (case hw => rfl); (case hdst => rfl); (case hd => rfl))
    | ((with_reducible apply Runs.retP tysOK); (case hrs => rfl); (case h => rfl); (case hr => (cases H; exact refX)); (case hx => rfl))
    | exact leRX)
end Go.Proofs.Ytopbcamlagdieaa.PStats
set_option linter.unusedVariables false
set_option linter.unusedSimpArgs false
namespace Go.Proofs.Ytopbcamlagdieaa.PStats
open Go.RowKit Go.Proofs.YtopbcamlagdieaaW.PrintWords Go.Proofs.YtopbcamlagdieaaW.PrintLast Go.Proofs.YtopbcamlagdieaaW.PrintMore Go.Proofs.Ytopbcamlagdieaa.Abs
/-! ### conf_once: function 63 -/
mutual
def conf_once.j0 : Nat → Bool → Bool → Int → Int → Int → Int → List (S76) → List (S65) → Int → Int → Int → Int → Int → Int → Int → List (S76) → List (S65) → Int → Int → Int → Option (Bool)
  | 0, _, _, _, _, _, _, _, _, _, _, _, _, _, _, _, _, _, _, _, _ => none
  | k + 1, x2, x53, x171000, x171001, x171002, x171003, x171004, x171005, x171006, x171007, x171008, x172000, x172001, x172002, x172003, x172004, x172005, x172006, x172007, x172008 => if x53 = true then (some false) else (conf_once.l0 k x2 x171004 (x171004.length : Int) 0 x171000 x171001 x171002 x171003 x171004 x171005 x171006 x171007 x171008 x172000 x172001 x172002 x172003 x172004 x172005 x172006 x172007 x172008)
def conf_once.l0 : Nat → Bool → List (S76) → Int → Int → Int → Int → Int → Int → List (S76) → List (S65) → Int → Int → Int → Int → Int → Int → Int → List (S76) → List (S65) → Int → Int → Int → Option (Bool)
  | 0, _, _, _, _, _, _, _, _, _, _, _, _, _, _, _, _, _, _, _, _, _, _ => none
  | k + 1, x2, x56, x57, x58, x171000, x171001, x171002, x171003, x171004, x171005, x171006, x171007, x171008, x172000, x172001, x172002, x172003, x172004, x172005, x172006, x172007, x172008 => if x58 < x57 then (if 0 ≤ x58 then (if x58 < (x56.length : Int) then (conf_once.l1 k x2 x58 x56 x57 x58 x172004 (x172004.length : Int) 0 x171000 x171001 x171002 x171003 x171004 x171005 x171006 x171007 x171008 x172000 x172001 x172002 x172003 x172004 x172005 x172006 x172007 x172008 ((rd_T76 x56 x58).f0) ((rd_T76 x56 x58).f1)) else (none)) else (none)) else (conf_once.l2 k x2 x171005 (x171005.length : Int) 0 x171000 x171001 x171002 x171003 x171004 x171005 x171006 x171007 x171008 x172000 x172001 x172002 x172003 x172004 x172005 x172006 x172007 x172008)
def conf_once.l1 : Nat → Bool → Int → List (S76) → Int → Int → List (S76) → Int → Int → Int → Int → Int → Int → List (S76) → List (S65) → Int → Int → Int → Int → Int → Int → Int → List (S76) → List (S65) → Int → Int → Int → Int → Int → Option (Bool)
  | 0, _, _, _, _, _, _, _, _, _, _, _, _, _, _, _, _, _, _, _, _, _, _, _, _, _, _, _, _ => none
  | k + 1, x2, x7, x56, x57, x58, x65, x66, x67, x171000, x171001, x171002, x171003, x171004, x171005, x171006, x171007, x171008, x172000, x172001, x172002, x172003, x172004, x172005, x172006, x172007, x172008, x175000, x175001 => if x67 < x66 then (if 0 ≤ x67 then (if x67 < (x65.length : Int) then (if x2 = true then (if x7 = x67 then (conf_once.l1 k x2 x7 x56 x57 x58 x65 x66 (wrap64 (x67 + 1)) x171000 x171001 x171002 x171003 x171004 x171005 x171006 x171007 x171008 x172000 x172001 x172002 x172003 x172004 x172005 x172006 x172007 x172008 x175000 x175001) else ((conf_has.f x175000 x175001 ((rd_T76 x65 x67).f0)).bind fun t177 => (if t177 = true then (some false) else ((conf_has.f ((rd_T76 x65 x67).f0) ((rd_T76 x65 x67).f1) x175000).bind fun t178 => (if t178 = true then (some false) else (conf_once.l1 k x2 x7 x56 x57 x58 x65 x66 (wrap64 (x67 + 1)) x171000 x171001 x171002 x171003 x171004 x171005 x171006 x171007 x171008 x172000 x172001 x172002 x172003 x172004 x172005 x172006 x172007 x172008 x175000 x175001)))))) else (conf_once.l1 k x2 x7 x56 x57 x58 x65 x66 (wrap64 (x67 + 1)) x171000 x171001 x171002 x171003 x171004 x171005 x171006 x171007 x171008 x172000 x172001 x172002 x172003 x172004 x172005 x172006 x172007 x172008 x175000 x175001)) else (none)) else (none)) else (conf_once.l0 k x2 x56 x57 (wrap64 (x58 + 1)) x171000 x171001 x171002 x171003 x171004 x171005 x171006 x171007 x171008 x172000 x172001 x172002 x172003 x172004 x172005 x172006 x172007 x172008)
def conf_once.l2 : Nat → Bool → List (S65) → Int → Int → Int → Int → Int → Int → List (S76) → List (S65) → Int → Int → Int → Int → Int → Int → Int → List (S76) → List (S65) → Int → Int → Int → Option (Bool)
  | 0, _, _, _, _, _, _, _, _, _, _, _, _, _, _, _, _, _, _, _, _, _, _ => none
  | k + 1, x2, x94, x95, x96, x171000, x171001, x171002, x171003, x171004, x171005, x171006, x171007, x171008, x172000, x172001, x172002, x172003, x172004, x172005, x172006, x172007, x172008 => if x96 < x95 then (if 0 ≤ x96 then (if x96 < (x94.length : Int) then (conf_once.l3 k x2 x96 x94 x95 x96 x172005 (x172005.length : Int) 0 x171000 x171001 x171002 x171003 x171004 x171005 x171006 x171007 x171008 x172000 x172001 x172002 x172003 x172004 x172005 x172006 x172007 x172008 ((rd_T65 x94 x96).f0) ((rd_T65 x94 x96).f1)) else (none)) else (none)) else (some true)
def conf_once.l3 : Nat → Bool → Int → List (S65) → Int → Int → List (S65) → Int → Int → Int → Int → Int → Int → List (S76) → List (S65) → Int → Int → Int → Int → Int → Int → Int → List (S76) → List (S65) → Int → Int → Int → ByteArray → Int → Option (Bool)
  | 0, _, _, _, _, _, _, _, _, _, _, _, _, _, _, _, _, _, _, _, _, _, _, _, _, _, _, _, _ => none
  | k + 1, x2, x11, x94, x95, x96, x103, x104, x105, x171000, x171001, x171002, x171003, x171004, x171005, x171006, x171007, x171008, x172000, x172001, x172002, x172003, x172004, x172005, x172006, x172007, x172008, x181000, x181001 => if x105 < x104 then (if 0 ≤ x105 then (if x105 < (x103.length : Int) then (if x2 = true then (if x11 = x105 then (conf_once.l3 k x2 x11 x94 x95 x96 x103 x104 (wrap64 (x105 + 1)) x171000 x171001 x171002 x171003 x171004 x171005 x171006 x171007 x171008 x172000 x172001 x172002 x172003 x172004 x172005 x172006 x172007 x172008 x181000 x181001) else (if x181001 = ((rd_T65 x103 x105).f1) then (some false) else (if x171000 = x172000 then (if x181000.toList = ((rd_T65 x103 x105).f0).toList then (some false) else (conf_once.l3 k x2 x11 x94 x95 x96 x103 x104 (wrap64 (x105 + 1)) x171000 x171001 x171002 x171003 x171004 x171005 x171006 x171007 x171008 x172000 x172001 x172002 x172003 x172004 x172005 x172006 x172007 x172008 x181000 x181001)) else (conf_once.l3 k x2 x11 x94 x95 x96 x103 x104 (wrap64 (x105 + 1)) x171000 x171001 x171002 x171003 x171004 x171005 x171006 x171007 x171008 x172000 x172001 x172002 x172003 x172004 x172005 x172006 x172007 x172008 x181000 x181001)))) else (if x181001 = ((rd_T65 x103 x105).f1) then (some false) else (if x171000 = x172000 then (if x181000.toList = ((rd_T65 x103 x105).f0).toList then (some false) else (conf_once.l3 k x2 x11 x94 x95 x96 x103 x104 (wrap64 (x105 + 1)) x171000 x171001 x171002 x171003 x171004 x171005 x171006 x171007 x171008 x172000 x172001 x172002 x172003 x172004 x172005 x172006 x172007 x172008 x181000 x181001)) else (conf_once.l3 k x2 x11 x94 x95 x96 x103 x104 (wrap64 (x105 + 1)) x171000 x171001 x171002 x171003 x171004 x171005 x171006 x171007 x171008 x172000 x172001 x172002 x172003 x172004 x172005 x172006 x172007 x172008 x181000 x181001)))) else (none)) else (none)) else (conf_once.l2 k x2 x94 x95 (wrap64 (x96 + 1)) x171000 x171001 x171002 x171003 x171004 x171005 x171006 x171007 x171008 x172000 x172001 x172002 x172003 x172004 x172005 x172006 x172007 x172008)
end
def conf_once.f (k : Nat) (a0_0 : Int) (a0_1 : Int) (a0_2 : Int) (a0_3 : Int) (l0_4 : List (S76)) (l0_5 : List (S65)) (a0_6 : Int) (a0_7 : Int) (a0_8 : Int) (a1_0 : Int) (a1_1 : Int) (a1_2 : Int) (a1_3 : Int) (l1_4 : List (S76)) (l1_5 : List (S65)) (a1_6 : Int) (a1_7 : Int) (a1_8 : Int) (a2 : Bool) : Option (Bool) := if a2 = true then (conf_once.j0 k a2 false a0_0 a0_1 a0_2 a0_3 l0_4 l0_5 a0_6 a0_7 a0_8 a1_0 a1_1 a1_2 a1_3 l1_4 l1_5 a1_6 a1_7 a1_8) else ((addr_Meet.f a0_2 a0_3 a1_2 a1_3).bind fun t172 => (if t172 = true then (conf_once.j0 k a2 true a0_0 a0_1 a0_2 a0_3 l0_4 l0_5 a0_6 a0_7 a0_8 a1_0 a1_1 a1_2 a1_3 l1_4 l1_5 a1_6 a1_7 a1_8) else (if a0_0 = a1_0 then (conf_once.j0 k a2 false a0_0 a0_1 a0_2 a0_3 l0_4 l0_5 a0_6 a0_7 a0_8 a1_0 a1_1 a1_2 a1_3 l1_4 l1_5 a1_6 a1_7 a1_8) else (if a0_6 = a1_6 then (conf_once.j0 k a2 (decide (a0_6 > 0)) a0_0 a0_1 a0_2 a0_3 l0_4 l0_5 a0_6 a0_7 a0_8 a1_0 a1_1 a1_2 a1_3 l1_4 l1_5 a1_6 a1_7 a1_8) else (conf_once.j0 k a2 false a0_0 a0_1 a0_2 a0_3 l0_4 l0_5 a0_6 a0_7 a0_8 a1_0 a1_1 a1_2 a1_3 l1_4 l1_5 a1_6 a1_7 a1_8)))))
noncomputable def conf_once.cx : Cx := ⟨Try.prog, tys, glo, 140, Try.f63, [.tmp 6], 0⟩
set_option maxHeartbeats 16000000 in
set_option maxRecDepth 100000 in
theorem conf_once.ok {k : Nat} {a0_0 : Int} {a0_1 : Int} {a0_2 : Int} {a0_3 : Int} {l0_4 : List (S76)} {l0_5 : List (S65)} {a0_6 : Int} {a0_7 : Int} {a0_8 : Int} {a1_0 : Int} {a1_1 : Int} {a1_2 : Int} {a1_3 : Int} {l1_4 : List (S76)} {l1_5 : List (S65)} {a1_6 : Int} {a1_7 : Int} {a1_8 : Int} {a2 : Bool} {r0 : Bool} (H : conf_once.f k a0_0 a0_1 a0_2 a0_3 l0_4 l0_5 a0_6 a0_7 a0_8 a1_0 a1_1 a1_2 a1_3 l1_4 l1_5 a1_6 a1_7 a1_8 a2 = some r0) : CallOK Try.prog glo 63 [.agg [.imm (.int .i64 a0_0), .imm (.int .i64 a0_1), .imm (.int .i64 a0_2), .imm (.int .i64 a0_3), vS76 l0_4, vS65 l0_5, .imm (.int .i64 a0_6), .imm (.int .i64 a0_7), .imm (.int .i64 a0_8)], .agg [.imm (.int .i64 a1_0), .imm (.int .i64 a1_1), .imm (.int .i64 a1_2), .imm (.int .i64 a1_3), vS76 l1_4, vS65 l1_5, .imm (.int .i64 a1_6), .imm (.int .i64 a1_7), .imm (.int .i64 a1_8)], .imm (.bool a2)] (.imm (.bool r0)) := by
  unfold conf_once.f at H
  refine CallOK.of (c := conf_once.cx) Try.func63 (show (conf_once.cx).fn.body = some _ from rfl) rfl rfl (Nat.le_of_ble_eq_true rfl) rfl ?_
  repeat' (first
    | ((with_reducible have hJ : conf_once.j0 k _ _ _ _ _ _ _ _ _ _ _ _ _ _ _ _ _ _ _ _ = some _ := H); clear hJ; (rcases k with _ | k); (rw [conf_once.j0] at H; cases H); (rw [conf_once.j0] at H))
    | ((with_reducible have hJ : conf_once.j0 k0 _ _ _ _ _ _ _ _ _ _ _ _ _ _ _ _ _ _ _ _ = some _ := H); clear hJ; (rcases k0 with _ | k0); (rw [conf_once.j0] at H; cases H); (rw [conf_once.j0] at H))
    | ((with_reducible have hJ : conf_once.j0 k1 _ _ _ _ _ _ _ _ _ _ _ _ _ _ _ _ _ _ _ _ = some _ := H); clear hJ; (rcases k1 with _ | k1); (rw [conf_once.j0] at H; cases H); (rw [conf_once.j0] at H))
    | ((with_reducible have hJ : conf_once.j0 k2 _ _ _ _ _ _ _ _ _ _ _ _ _ _ _ _ _ _ _ _ = some _ := H); clear hJ; (rcases k2 with _ | k2); (rw [conf_once.j0] at H; cases H); (rw [conf_once.j0] at H))
    | ((with_reducible have hJ : conf_once.j0 k3 _ _ _ _ _ _ _ _ _ _ _ _ _ _ _ _ _ _ _ _ = some _ := H); clear hJ; (rcases k3 with _ | k3); (rw [conf_once.j0] at H; cases H); (rw [conf_once.j0] at H))
    | ((with_reducible replace H := some_ite H); obtain ⟨_, H⟩ := H)
    | (with_reducible replace H := some_bind_ H)
    | (with_reducible replace H := true_ite H)
    | (with_reducible replace H := false_ite H)
    | ((with_reducible have hb := bool_ite H); clear H; rcases hb with ⟨e_, H⟩ | ⟨e_, H⟩ <;> subst e_)
    | ((with_reducible apply ROps.pure); (case hop => rfl); (case hw => rfl); (case hdst => rfl); (case hd => rfl))
    | (with_reducible apply ROps.nil)
    | (with_reducible apply Runs.seq)
    | (with_reducible apply Runs.region tysOK)
    | (with_reducible apply Runs.block)
    | (with_reducible apply Runs.skip)
    | (with_reducible apply Runs.inBlock)
    | (with_reducible apply Runs.scope)
    | (with_reducible apply Runs.inScope)
    | (with_reducible apply Runs.label)
    | ((with_reducible apply Runs.condT); (case ho => rfl))
    | ((with_reducible apply Runs.condF); (case ho => rfl))
    | ((with_reducible apply Runs.exit); (case he => rfl))
    | ((with_reducible apply ROps.store); (case hop => rfl); (case hp => rfl); (case hR => rfl); (case hc => rfl); (case hl => first | (dsimp only [setR_one, setR, Nat.beq, cond]; done) | (dsimp only [setR_one, setR, Nat.beq, cond]; rfl) | rfl); (case hl' => first | (dsimp only [List.take, List.drop, List.append, List.nil_append, List.cons_append, List.map, List.length, Nat.add]; rfl) | rfl); (case hw => rfl); (all_goals try rfl))
    | ((with_reducible apply ROps.cmp); (case hop => exact cmpX); (case hw => rfl); (case hdst => rfl); (case hd => rfl); (all_goals (intro h; first | (replace H := ite_pos_ h H) | (replace H := ite_neg_ h H) | (replace H := dec_pos h H) | (replace H := dec_neg h H) | (replace H := dec_t h H) | (replace H := dec_f h H) | (replace H := beq_pos h H) | (replace H := beq_neg h H) | (replace H := beq_tt h H) | (replace H := beq_ff h H) | (replace H := ite_pos_ (Decidable.not_not.1 h) H) | (replace H := beq_pos (Decidable.not_not.1 h) H) | (replace H := beq_tt (Decidable.not_not.1 h) H) | ((try simp only [rd_T65, rd_T76, rdOf] at h); (try simp only [rd_T65, rd_T76, rdOf] at H); (rw [decide_eq_true h] at H)) | ((try simp only [rd_T65, rd_T76, rdOf] at h); (try simp only [rd_T65, rd_T76, rdOf] at H); (rw [decide_eq_false h] at H)) | ((try simp only [rd_T65, rd_T76, rdOf] at h); (try simp only [rd_T65, rd_T76, rdOf] at H); (rw [beq_t h] at H)) | ((try simp only [rd_T65, rd_T76, rdOf] at h); (try simp only [rd_T65, rd_T76, rdOf] at H); (rw [beq_f h] at H)) | ((try simp only [rd_T65, rd_T76, rdOf] at h); (try simp only [rd_T65, rd_T76, rdOf] at H); (rw [bne_t h] at H)) | ((try simp only [rd_T65, rd_T76, rdOf] at h); (try simp only [rd_T65, rd_T76, rdOf] at H); (rw [bne_f h] at H)) | ((try simp only [rd_T65, rd_T76, rdOf] at h); (try simp only [rd_T65, rd_T76, rdOf] at H); (rw [beq_t (Decidable.not_not.1 h)] at H)) | ((try simp only [rd_T65, rd_T76, rdOf] at h); (try simp only [rd_T65, rd_T76, rdOf] at H); (rw [bne_f (Decidable.not_not.1 h)] at H)) | ((try simp only [rd_T65, rd_T76, rdOf] at h); (try simp only [rd_T65, rd_T76, rdOf] at H); (rw [if_pos h] at H)) | ((try simp only [rd_T65, rd_T76, rdOf] at h); (try simp only [rd_T65, rd_T76, rdOf] at H); (rw [if_neg h] at H)) | contradiction | skip)))
    | ((with_reducible apply ROps.val); (case hop => exact valX); (case hw => rfl); (case hdst => rfl); (case hd => rfl))
    | ((first | (with_reducible apply ROps.eqS; case hop => rfl) | (with_reducible apply ROps.neS; case hop => rfl)); (case ht => rfl); (case hx => rfl); (case hy => rfl); (case hl => rfl); (case hr => rfl); (case hw => rfl); (case hdst => rfl); (case hd => rfl); (all_goals (intro h; first | (replace H := ite_posF H h) | (replace H := ite_negF H h) | (dsimp only [eqP, eqA] at h) | skip)))
    | ((with_reducible apply ROps.idx); (case hop => rfl); (case hx => rfl); (case hi => rfl); (case he => rfl); (case hw => rfl); (case hdst => rfl); (case hd => rfl); (case h0 => first | assumption | omega); (case h1 => first | assumption | omega))
    | ((with_reducible apply ROps.alloc); (case hop => rfl); (case hw => rfl); (all_goals try rfl))
    | ((with_reducible apply ROps.box); (case hop => rfl); (case hx => rfl); (case hrf => rfl); (case hw => rfl); (all_goals try rfl))
    | ((with_reducible apply ROps.off); (case hw => rfl); (case hdst => rfl); (case hd => rfl))
    | ((with_reducible have hB : (conf_has.f _ _ _).bind _ = some _ := H); clear hB; (replace H := bind_some' H); (obtain ⟨t_, H1, H⟩ := H); (try dsimp only at H); (with_reducible apply ROps.call); (case hop => rfl); (case hc => exact conf_has.ok H1); (case ha => exact argsX); (case hw => rfl); (case hdst => rfl); (case hd => rfl))
    | ((with_reducible have hB : (addr_Meet.f _ _ _ _).bind _ = some _ := H); clear hB; (replace H := bind_some' H); (obtain ⟨t_, H1, H⟩ := H); (try dsimp only at H); (with_reducible apply ROps.call); (case hop => rfl); (case hc => exact addr_Meet.ok H1); (case ha => exact argsX); (case hw => rfl); (case hdst => rfl); (case hd => rfl))
    | ((with_reducible apply Runs.loopK1 ((fun i0 i1 i2 i3 i4 i5 i6 i7 i8 i9 i10 i11 i12 i13 i14 i15 i16 i17 i18 i19 i20 => fun kk (v0_58 : Int) => conf_once.l0 kk i0 i1 i2 v0_58 i3 i4 i5 i6 i7 i8 i9 i10 i11 i12 i13 i14 i15 i16 i17 i18 i19 i20) _ _ _ _ _ _ _ _ _ _ _ _ _ _ _ _ _ _ _ _ _) [2, 3, 4, 56, 57] [] (fun b v0_58 => [(58, .imm (.int .i64 v0_58))]) (fun v0_58 => []) _ _ [] H); (case h0 => intros; rfl); (any_goals (clear H; intro k0 hk0 ih0 v0_58 H; replace H : conf_once.l0 (k0 + 1) _ _ _ v0_58 _ _ _ _ _ _ _ _ _ _ _ _ _ _ _ _ _ _ = some _ := H; rw [conf_once.l0] at H)))
    | (with_reducible apply ih0 _ _ [] _ _ (by omega) H)
    | ((with_reducible apply Runs.loopK1 ((fun i0 i1 i2 i3 i4 i5 i6 i7 i8 i9 i10 i11 i12 i13 i14 i15 i16 i17 i18 i19 i20 i21 i22 i23 i24 i25 i26 => fun kk (v1_67 : Int) => conf_once.l1 kk i0 i1 i2 i3 i4 i5 i6 v1_67 i7 i8 i9 i10 i11 i12 i13 i14 i15 i16 i17 i18 i19 i20 i21 i22 i23 i24 i25 i26) _ _ _ _ _ _ _ _ _ _ _ _ _ _ _ _ _ _ _ _ _ _ _ _ _ _ _) [2, 3, 4, 7, 8, 56, 57, 58, 65, 66] [] (fun b v1_67 => [(67, .imm (.int .i64 v1_67))]) (fun v1_67 => []) _ _ [] H); (case h0 => intros; rfl); (any_goals (clear H; intro k1 hk1 ih1 v1_67 H; replace H : conf_once.l1 (k1 + 1) _ _ _ _ _ _ _ v1_67 _ _ _ _ _ _ _ _ _ _ _ _ _ _ _ _ _ _ _ _ = some _ := H; rw [conf_once.l1] at H)))
    | (with_reducible apply ih1 _ _ [] _ _ (by omega) H)
    | ((with_reducible apply Runs.loopK1 ((fun i0 i1 i2 i3 i4 i5 i6 i7 i8 i9 i10 i11 i12 i13 i14 i15 i16 i17 i18 i19 i20 => fun kk (v2_96 : Int) => conf_once.l2 kk i0 i1 i2 v2_96 i3 i4 i5 i6 i7 i8 i9 i10 i11 i12 i13 i14 i15 i16 i17 i18 i19 i20) _ _ _ _ _ _ _ _ _ _ _ _ _ _ _ _ _ _ _ _ _) [2, 3, 4, 94, 95] [] (fun b v2_96 => [(96, .imm (.int .i64 v2_96))]) (fun v2_96 => []) _ _ [] H); (case h0 => intros; rfl); (any_goals (clear H; intro k2 hk2 ih2 v2_96 H; replace H : conf_once.l2 (k2 + 1) _ _ _ v2_96 _ _ _ _ _ _ _ _ _ _ _ _ _ _ _ _ _ _ = some _ := H; rw [conf_once.l2] at H)))
    | (with_reducible apply ih2 _ _ [] _ _ (by omega) H)
    | ((with_reducible apply Runs.loopK1 ((fun i0 i1 i2 i3 i4 i5 i6 i7 i8 i9 i10 i11 i12 i13 i14 i15 i16 i17 i18 i19 i20 i21 i22 i23 i24 i25 i26 => fun kk (v3_105 : Int) => conf_once.l3 kk i0 i1 i2 i3 i4 i5 i6 v3_105 i7 i8 i9 i10 i11 i12 i13 i14 i15 i16 i17 i18 i19 i20 i21 i22 i23 i24 i25 i26) _ _ _ _ _ _ _ _ _ _ _ _ _ _ _ _ _ _ _ _ _ _ _ _ _ _ _) [2, 3, 4, 11, 12, 94, 95, 96, 103, 104] [] (fun b v3_105 => [(105, .imm (.int .i64 v3_105))]) (fun v3_105 => []) _ _ [] H); (case h0 => intros; rfl); (any_goals (clear H; intro k3 hk3 ih3 v3_105 H; replace H : conf_once.l3 (k3 + 1) _ _ _ _ _ _ _ v3_105 _ _ _ _ _ _ _ _ _ _ _ _ _ _ _ _ _ _ _ _ = some _ := H; rw [conf_once.l3] at H)))
    | (with_reducible apply ih3 _ _ [] _ _ (by omega) H)
    | ((with_reducible apply Runs.retP tysOK); (case hrs => rfl); (case h => rfl); (case hr => (cases H; exact refX)); (case hx => rfl))
    | exact leRX)
end Go.Proofs.Ytopbcamlagdieaa.PStats
set_option linter.unusedVariables false
set_option linter.unusedSimpArgs false
namespace Go.Proofs.Ytopbcamlagdieaa.PStats
open Go.RowKit Go.Proofs.YtopbcamlagdieaaW.PrintWords Go.Proofs.YtopbcamlagdieaaW.PrintLast Go.Proofs.YtopbcamlagdieaaW.PrintMore Go.Proofs.Ytopbcamlagdieaa.Abs
/-! ### conf_unlike: function 37 -/
mutual
def conf_unlike.l0 : Nat → List (S86) → List (S86) → Int → Int → Option (Bool)
  | 0, _, _, _, _ => none
  | k + 1, x3, x10, x11, x12 => if x12 < x11 then (if 0 ≤ x12 then (if x12 < (x10.length : Int) then (conf_unlike.l1 k x3 x12 x10 x11 x12 x3 (x3.length : Int) 0 ((rd_T86 x10 x12).f0) ((rd_T86 x10 x12).f1) ((rd_T86 x10 x12).f2.f0) ((rd_T86 x10 x12).f2.f1) ((rd_T86 x10 x12).f2.f2) ((rd_T86 x10 x12).f2.f3) ((rd_T86 x10 x12).f2.f4) ((rd_T86 x10 x12).f2.f5) ((rd_T86 x10 x12).f2.f6)) else (none)) else (none)) else (some true)
def conf_unlike.l1 : Nat → List (S86) → Int → List (S86) → Int → Int → List (S86) → Int → Int → Int → Int → Int → Int → List (S76) → List (S65) → Int → Int → Int → Option (Bool)
  | 0, _, _, _, _, _, _, _, _, _, _, _, _, _, _, _, _, _ => none
  | k + 1, x3, x4, x10, x11, x12, x17, x18, x19, x189000, x189001, x189002, x189003, x189004, x189005, x189006, x189007, x189008 => if x19 < x18 then (if 0 ≤ x19 then (if x19 < (x17.length : Int) then ((conf_once.f k x189000 x189001 x189002 x189003 x189004 x189005 x189006 x189007 x189008 ((rd_T86 x17 x19).f0) ((rd_T86 x17 x19).f1) ((rd_T86 x17 x19).f2.f0) ((rd_T86 x17 x19).f2.f1) ((rd_T86 x17 x19).f2.f2) ((rd_T86 x17 x19).f2.f3) ((rd_T86 x17 x19).f2.f4) ((rd_T86 x17 x19).f2.f5) ((rd_T86 x17 x19).f2.f6) (x4 == x19)).bind fun t191 => (if t191 = true then (conf_unlike.l1 k x3 x4 x10 x11 x12 x17 x18 (wrap64 (x19 + 1)) x189000 x189001 x189002 x189003 x189004 x189005 x189006 x189007 x189008) else (some false))) else (none)) else (none)) else (conf_unlike.l0 k x3 x10 x11 (wrap64 (x12 + 1)))
end
def conf_unlike.f (k : Nat) (a0_0 : Int) (a0_1 : Int) (l0_2 : List (S56)) : Option (Bool) := (conf_spots.f k a0_0 a0_1 l0_2).bind fun t184 => (conf_unlike.l0 k t184 t184 (t184.length : Int) 0)
noncomputable def conf_unlike.cx : Cx := ⟨Try.prog, tys, glo, 33, Try.f37, [.tmp 2], 0⟩
set_option maxHeartbeats 16000000 in
set_option maxRecDepth 100000 in
theorem conf_unlike.ok {k : Nat} {a0_0 : Int} {a0_1 : Int} {l0_2 : List (S56)} {r0 : Bool} (H : conf_unlike.f k a0_0 a0_1 l0_2 = some r0) : CallOK Try.prog glo 37 [.agg [.imm (.int .i64 a0_0), .imm (.int .i64 a0_1), vS56 l0_2]] (.imm (.bool r0)) := by
  unfold conf_unlike.f at H
  refine CallOK.of (c := conf_unlike.cx) Try.func37 (show (conf_unlike.cx).fn.body = some _ from rfl) rfl rfl (Nat.le_of_ble_eq_true rfl) rfl ?_
  repeat' (first
    | ((with_reducible replace H := some_ite H); obtain ⟨_, H⟩ := H)
    | (with_reducible replace H := true_ite H)
    | (with_reducible replace H := false_ite H)
    | ((with_reducible have hb := bool_ite H); clear H; rcases hb with ⟨e_, H⟩ | ⟨e_, H⟩ <;> subst e_)
    | ((with_reducible apply ROps.pure); (case hop => rfl); (case hw => rfl); (case hdst => rfl); (case hd => rfl))
    | (with_reducible apply ROps.nil)
    | (with_reducible apply Runs.seq)
    | (with_reducible apply Runs.region tysOK)
    | (with_reducible apply Runs.block)
    | (with_reducible apply Runs.skip)
    | (with_reducible apply Runs.inBlock)
    | (with_reducible apply Runs.scope)
    | (with_reducible apply Runs.inScope)
    | (with_reducible apply Runs.label)
    | ((with_reducible apply Runs.condT); (case ho => rfl))
    | ((with_reducible apply Runs.condF); (case ho => rfl))
    | ((with_reducible apply Runs.exit); (case he => rfl))
    | ((with_reducible apply ROps.store); (case hop => rfl); (case hp => rfl); (case hR => rfl); (case hc => rfl); (case hl => first | (dsimp only [setR_one, setR, Nat.beq, cond]; done) | (dsimp only [setR_one, setR, Nat.beq, cond]; rfl) | rfl); (case hl' => first | (dsimp only [List.take, List.drop, List.append, List.nil_append, List.cons_append, List.map, List.length, Nat.add]; rfl) | rfl); (case hw => rfl); (all_goals try rfl))
    | ((with_reducible apply ROps.cmp); (case hop => exact cmpX); (case hw => rfl); (case hdst => rfl); (case hd => rfl); (all_goals (intro h; first | (replace H := ite_pos_ h H) | (replace H := ite_neg_ h H) | (replace H := dec_pos h H) | (replace H := dec_neg h H) | (replace H := dec_t h H) | (replace H := dec_f h H) | (replace H := beq_pos h H) | (replace H := beq_neg h H) | (replace H := beq_tt h H) | (replace H := beq_ff h H) | (replace H := ite_pos_ (Decidable.not_not.1 h) H) | (replace H := beq_pos (Decidable.not_not.1 h) H) | (replace H := beq_tt (Decidable.not_not.1 h) H) | ((try simp only [rd_T86, rdOf] at h); (try simp only [rd_T86, rdOf] at H); (rw [decide_eq_true h] at H)) | ((try simp only [rd_T86, rdOf] at h); (try simp only [rd_T86, rdOf] at H); (rw [decide_eq_false h] at H)) | ((try simp only [rd_T86, rdOf] at h); (try simp only [rd_T86, rdOf] at H); (rw [beq_t h] at H)) | ((try simp only [rd_T86, rdOf] at h); (try simp only [rd_T86, rdOf] at H); (rw [beq_f h] at H)) | ((try simp only [rd_T86, rdOf] at h); (try simp only [rd_T86, rdOf] at H); (rw [beq_t (Decidable.not_not.1 h)] at H)) | ((try simp only [rd_T86, rdOf] at h); (try simp only [rd_T86, rdOf] at H); (rw [if_pos h] at H)) | ((try simp only [rd_T86, rdOf] at h); (try simp only [rd_T86, rdOf] at H); (rw [if_neg h] at H)) | contradiction | skip)))
    | ((with_reducible apply ROps.val); (case hop => exact valX); (case hw => rfl); (case hdst => rfl); (case hd => rfl))
    | ((first | (with_reducible apply ROps.eqS; case hop => rfl) | (with_reducible apply ROps.neS; case hop => rfl)); (case ht => rfl); (case hx => rfl); (case hy => rfl); (case hl => rfl); (case hr => rfl); (case hw => rfl); (case hdst => rfl); (case hd => rfl); (all_goals (intro h; first | (replace H := ite_posF H h) | (replace H := ite_negF H h) | (dsimp only [eqP, eqA] at h) | skip)))
    | ((with_reducible apply ROps.idx); (case hop => rfl); (case hx => rfl); (case hi => rfl); (case he => rfl); (case hw => rfl); (case hdst => rfl); (case hd => rfl); (case h0 => first | assumption | omega); (case h1 => first | assumption | omega))
    | ((with_reducible apply ROps.alloc); (case hop => rfl); (case hw => rfl); (all_goals try rfl))
    | ((with_reducible apply ROps.box); (case hop => rfl); (case hx => rfl); (case hrf => rfl); (case hw => rfl); (all_goals try rfl))
    | ((with_reducible have hB : (conf_spots.f _ _ _ _).bind _ = some _ := H); clear hB; (replace H := bind_some' H); (obtain ⟨t_, H1, H⟩ := H); (try dsimp only at H); (with_reducible apply ROps.call); (case hop => rfl); (case hc => exact conf_spots.ok H1); (case ha => exact argsX); (case hw => rfl); (case hdst => rfl); (case hd => rfl))
    | ((with_reducible have hB : (conf_once.f _ _ _ _ _ _ _ _ _ _ _ _ _ _ _ _ _ _ _ _).bind _ = some _ := H); clear hB; (replace H := bind_some' H); (obtain ⟨t_, H1, H⟩ := H); (try dsimp only at H); (with_reducible apply ROps.call); (case hop => rfl); (case hc => exact conf_once.ok H1); (case ha => exact argsX); (case hw => rfl); (case hdst => rfl); (case hd => rfl))
    | ((with_reducible apply Runs.loopK1 ((fun i0 i1 i2 => fun kk (v0_12 : Int) => conf_unlike.l0 kk i0 i1 i2 v0_12) _ _ _) [3, 10, 11] [] (fun b v0_12 => [(12, .imm (.int .i64 v0_12))]) (fun v0_12 => []) _ _ [] H); (case h0 => intros; rfl); (any_goals (clear H; intro k0 hk0 ih0 v0_12 H; replace H : conf_unlike.l0 (k0 + 1) _ _ _ v0_12 = some _ := H; rw [conf_unlike.l0] at H)))
    | (with_reducible apply ih0 _ _ [] _ _ (by omega) H)
    | ((with_reducible apply Runs.loopK1 ((fun i0 i1 i2 i3 i4 i5 i6 i7 i8 i9 i10 i11 i12 i13 i14 i15 => fun kk (v1_19 : Int) => conf_unlike.l1 kk i0 i1 i2 i3 i4 i5 i6 v1_19 i7 i8 i9 i10 i11 i12 i13 i14 i15) _ _ _ _ _ _ _ _ _ _ _ _ _ _ _ _) [3, 4, 5, 10, 11, 12, 17, 18] [] (fun b v1_19 => [(19, .imm (.int .i64 v1_19))]) (fun v1_19 => []) _ _ [] H); (case h0 => intros; rfl); (any_goals (clear H; intro k1 hk1 ih1 v1_19 H; replace H : conf_unlike.l1 (k1 + 1) _ _ _ _ _ _ _ v1_19 _ _ _ _ _ _ _ _ _ = some _ := H; rw [conf_unlike.l1] at H)))
    | (with_reducible apply ih1 _ _ [] _ _ (by omega) H)
    | ((with_reducible apply Runs.retP tysOK); (case hrs => rfl); (case h => rfl); (case hr => (cases H; exact refX)); (case hx => rfl))
    | exact leRX)
end Go.Proofs.Ytopbcamlagdieaa.PStats
set_option linter.unusedVariables false
set_option linter.unusedSimpArgs false
namespace Go.Proofs.Ytopbcamlagdieaa.PStats
open Go.RowKit Go.Proofs.YtopbcamlagdieaaW.PrintWords Go.Proofs.YtopbcamlagdieaaW.PrintLast Go.Proofs.YtopbcamlagdieaaW.PrintMore Go.Proofs.Ytopbcamlagdieaa.Abs
/-! ### conf_Check: function 21 -/
def conf_Check.f (k : Nat) (a0_0 : Int) (a0_1 : Int) (l0_2 : List (S56)) : Option (Int) := (conf_form.f k a0_0 a0_1 l0_2).bind fun t193 => (if t193 = true then ((conf_placed.f k a0_0 a0_1 l0_2).bind fun t194 => (if t194 = true then ((conf_unlike.f k a0_0 a0_1 l0_2).bind fun t195 => (if t195 = true then (some 0) else (some 8))) else (some 9))) else (some 1))
noncomputable def conf_Check.cx : Cx := ⟨Try.prog, tys, glo, 15, Try.f21, [.tmp 2], 0⟩
set_option maxHeartbeats 16000000 in
set_option maxRecDepth 100000 in
theorem conf_Check.ok {k : Nat} {a0_0 : Int} {a0_1 : Int} {l0_2 : List (S56)} {r0 : Int} (H : conf_Check.f k a0_0 a0_1 l0_2 = some r0) : CallOK Try.prog glo 21 [.agg [.imm (.int .i64 a0_0), .imm (.int .i64 a0_1), vS56 l0_2]] (.imm (.int .i64 r0)) := by
  unfold conf_Check.f at H
  refine CallOK.of (c := conf_Check.cx) Try.func21 (show (conf_Check.cx).fn.body = some _ from rfl) rfl rfl (Nat.le_of_ble_eq_true rfl) rfl ?_
  repeat' (first
    | ((with_reducible replace H := some_ite H); obtain ⟨_, H⟩ := H)
    | (with_reducible replace H := true_ite H)
    | (with_reducible replace H := false_ite H)
    | ((with_reducible have hb := bool_ite H); clear H; rcases hb with ⟨e_, H⟩ | ⟨e_, H⟩ <;> subst e_)
    | ((with_reducible apply ROps.pure); (case hop => rfl); (case hw => rfl); (case hdst => rfl); (case hd => rfl))
    | (with_reducible apply ROps.nil)
    | (with_reducible apply Runs.seq)
    | (with_reducible apply Runs.region tysOK)
    | (with_reducible apply Runs.block)
    | (with_reducible apply Runs.skip)
    | (with_reducible apply Runs.inBlock)
    | (with_reducible apply Runs.scope)
    | (with_reducible apply Runs.inScope)
    | (with_reducible apply Runs.label)
    | ((with_reducible apply Runs.condT); (case ho => rfl))
    | ((with_reducible apply Runs.condF); (case ho => rfl))
    | ((with_reducible apply ROps.box); (case hop => rfl); (case hx => rfl); (case hrf => rfl); (case hw => rfl); (all_goals try rfl))
    | ((with_reducible have hB : (conf_form.f _ _ _ _).bind _ = some _ := H); clear hB; (replace H := bind_some' H); (obtain ⟨t_, H1, H⟩ := H); (try dsimp only at H); (with_reducible apply ROps.call); (case hop => rfl); (case hc => exact conf_form.ok H1); (case ha => exact argsX); (case hw => rfl); (case hdst => rfl); (case hd => rfl))
    | ((with_reducible have hB : (conf_placed.f _ _ _ _).bind _ = some _ := H); clear hB; (replace H := bind_some' H); (obtain ⟨t_, H1, H⟩ := H); (try dsimp only at H); (with_reducible apply ROps.call); (case hop => rfl); (case hc => exact conf_placed.ok H1); (case ha => exact argsX); (case hw => rfl); (case hdst => rfl); (case hd => rfl))
    | ((with_reducible have hB : (conf_unlike.f _ _ _ _).bind _ = some _ := H); clear hB; (replace H := bind_some' H); (obtain ⟨t_, H1, H⟩ := H); (try dsimp only at H); (with_reducible apply ROps.call); (case hop => rfl); (case hc => exact conf_unlike.ok H1); (case ha => exact argsX); (case hw => rfl); (case hdst => rfl); (case hd => rfl))
    | ((with_reducible apply Runs.retP tysOK); (case hrs => rfl); (case h => rfl); (case hr => (cases H; exact refX)); (case hx => rfl))
    | exact leRX)
end Go.Proofs.Ytopbcamlagdieaa.PStats
set_option linter.unusedVariables false
set_option linter.unusedSimpArgs false
namespace Go.Proofs.Ytopbcamlagdieaa.PStats
open Go.RowKit Go.Proofs.YtopbcamlagdieaaW.PrintWords Go.Proofs.YtopbcamlagdieaaW.PrintLast Go.Proofs.YtopbcamlagdieaaW.PrintMore Go.Proofs.Ytopbcamlagdieaa.Abs
/-! ### record_Right: function 38 -/
def record_Right.f (a0_0 : Int) (a0_1 : Int) (a0_2 : Int) (a0_3 : ByteArray) : Option (Bool) := (addr_Right.f a0_0).bind fun t197 => (if t197 = true then (if a0_1 ≥ 1 then (if a0_1 ≤ 3 then (if a0_2 ≥ 0 then (if a0_2 ≤ 1125899906842624 then ((key_Right.f a0_3).bind fun t198 => (some t198)) else (some false)) else (some false)) else (some false)) else (some false)) else (some false))
noncomputable def record_Right.cx : Cx := ⟨Try.prog, tys, glo, 31, Try.f38, [.tmp 2], 0⟩
set_option maxHeartbeats 16000000 in
set_option maxRecDepth 100000 in
theorem record_Right.ok {a0_0 : Int} {a0_1 : Int} {a0_2 : Int} {a0_3 : ByteArray} {r0 : Bool} (H : record_Right.f a0_0 a0_1 a0_2 a0_3 = some r0) : CallOK Try.prog glo 38 [.agg [.imm (.int .i64 a0_0), .imm (.int .i64 a0_1), .imm (.int .i64 a0_2), .imm (.string a0_3)]] (.imm (.bool r0)) := by
  unfold record_Right.f at H
  refine CallOK.of (c := record_Right.cx) Try.func38 (show (record_Right.cx).fn.body = some _ from rfl) rfl rfl (Nat.le_of_ble_eq_true rfl) rfl ?_
  repeat' (first
    | ((with_reducible replace H := some_ite H); obtain ⟨_, H⟩ := H)
    | (with_reducible replace H := some_bind_ H)
    | (with_reducible replace H := true_ite H)
    | (with_reducible replace H := false_ite H)
    | ((with_reducible have hb := bool_ite H); clear H; rcases hb with ⟨e_, H⟩ | ⟨e_, H⟩ <;> subst e_)
    | ((with_reducible apply ROps.pure); (case hop => rfl); (case hw => rfl); (case hdst => rfl); (case hd => rfl))
    | (with_reducible apply ROps.nil)
    | (with_reducible apply Runs.seq)
    | (with_reducible apply Runs.region tysOK)
    | (with_reducible apply Runs.scope)
    | (with_reducible apply Runs.inScope)
    | (with_reducible apply Runs.label)
    | ((with_reducible apply ROps.cmp); (case hop => exact cmpX); (case hw => rfl); (case hdst => rfl); (case hd => rfl); (all_goals (intro h; first | (replace H := ite_pos_ h H) | (replace H := ite_neg_ h H) | (replace H := dec_pos h H) | (replace H := dec_neg h H) | (replace H := dec_t h H) | (replace H := dec_f h H) | (replace H := ite_pos_ (Decidable.not_not.1 h) H) | ((try simp only [rdOf] at h); (try simp only [rdOf] at H); (rw [decide_eq_true h] at H)) | ((try simp only [rdOf] at h); (try simp only [rdOf] at H); (rw [decide_eq_false h] at H)) | ((try simp only [rdOf] at h); (try simp only [rdOf] at H); (rw [if_pos h] at H)) | ((try simp only [rdOf] at h); (try simp only [rdOf] at H); (rw [if_neg h] at H)) | contradiction | skip)))
    | ((with_reducible apply ROps.box); (case hop => rfl); (case hx => rfl); (case hrf => rfl); (case hw => rfl); (all_goals try rfl))
    | ((with_reducible apply ROps.off); (case hw => rfl); (case hdst => rfl); (case hd => rfl))
    | ((with_reducible have hB : (addr_Right.f _).bind _ = some _ := H); clear hB; (replace H := bind_some' H); (obtain ⟨t_, H1, H⟩ := H); (try dsimp only at H); (with_reducible apply ROps.call); (case hop => rfl); (case hc => exact addr_Right.ok H1); (case ha => exact argsX); (case hw => rfl); (case hdst => rfl); (case hd => rfl))
    | ((with_reducible have hB : (key_Right.f _).bind _ = some _ := H); clear hB; (replace H := bind_some' H); (obtain ⟨t_, H1, H⟩ := H); (try dsimp only at H); (with_reducible apply ROps.call); (case hop => rfl); (case hc => exact key_Right.ok H1); (case ha => exact argsX); (case hw => rfl); (case hdst => rfl); (case hd => rfl))
    | ((with_reducible apply Runs.retP tysOK); (case hrs => rfl); (case h => rfl); (case hr => (cases H; exact refX)); (case hx => rfl))
    | exact leRX)
end Go.Proofs.Ytopbcamlagdieaa.PStats
set_option linter.unusedVariables false
set_option linter.unusedSimpArgs false
namespace Go.Proofs.Ytopbcamlagdieaa.PStats
open Go.RowKit Go.Proofs.YtopbcamlagdieaaW.PrintWords Go.Proofs.YtopbcamlagdieaaW.PrintLast Go.Proofs.YtopbcamlagdieaaW.PrintMore Go.Proofs.Ytopbcamlagdieaa.Abs
/-! ### table_Right: function 22 -/
def table_Right.l0 : Nat → List (S68) → List (S68) → Int → Int → Option (Bool)
  | 0, _, _, _, _ => none
  | k + 1, x0, x5, x6, x7 => if x7 < x6 then (if 0 ≤ x7 then (if x7 < (x5.length : Int) then ((record_Right.f ((rd_T68 x5 x7).f0) ((rd_T68 x5 x7).f1) ((rd_T68 x5 x7).f2) ((rd_T68 x5 x7).f3)).bind fun t201 => (if t201 = true then (if x7 > 0 then (if 0 ≤ (wrap64 (x7 - 1)) then (if (wrap64 (x7 - 1)) < (x0.length : Int) then (if ((rd_T68 x0 (wrap64 (x7 - 1))).f0) ≥ ((rd_T68 x5 x7).f0) then (some false) else (table_Right.l0 k x0 x5 x6 (wrap64 (x7 + 1)))) else (none)) else (none)) else (table_Right.l0 k x0 x5 x6 (wrap64 (x7 + 1)))) else (some false))) else (none)) else (none)) else (some (decide ((x0.length : Int) ≤ 64)))
def table_Right.f (k : Nat) (l0 : List (S68)) : Option (Bool) := table_Right.l0 k l0 l0 (l0.length : Int) 0
def table_Right.T4 : Bool × List (List Nat × List Nat) := (true, [([], []), ([0], [0]), ([1], [1]), ([2, 1], [2]), ([3], [3]), ([4, 3], [3, 4]), ([5, 3, 3], [3, 5]), ([6], [6]), ([6], [6]), ([8, 6], [6, 8]), ([7, 9, 6], [6, 7, 9]), ([10, 6], [6, 10]), ([11, 6], [6, 11]), ([6], [6]), ([13, 6], [6, 13]), ([12, 14, 6], [6, 12, 14]), ([6, 15, 3], [3, 6, 15]), ([3, 16], [3, 16])])
def table_Right.B4 : List Nat := [0, 1, 3, 7, 15, 31, 63, 127, 127, 383, 1023, 2047, 4095, 127, 8319, 32767, 65535, 131071]
noncomputable def table_Right.cx : Cx := ⟨Try.prog, tys, glo, 34, Try.f22, [.tmp 2], 0⟩
set_option maxHeartbeats 16000000 in
set_option maxRecDepth 100000 in
theorem table_Right.ok {k : Nat} {l0 : List (S68)} {r0 : Bool} (H : table_Right.f k l0 = some r0) : CallOK Try.prog glo 22 [vS68 l0] (.imm (.bool r0)) := by
  unfold table_Right.f at H
  refine CallOK.of (c := table_Right.cx) Try.func22 (show (table_Right.cx).fn.body = some _ from rfl) rfl rfl (Nat.le_of_ble_eq_true rfl) rfl ?_
  repeat' (first
    | ((with_reducible replace H := some_ite H); obtain ⟨_, H⟩ := H)
    | (with_reducible replace H := true_ite H)
    | (with_reducible replace H := false_ite H)
    | ((with_reducible have hb := bool_ite H); clear H; rcases hb with ⟨e_, H⟩ | ⟨e_, H⟩ <;> subst e_)
    | ((first | with_reducible apply ROps.pure | with_reducible apply DOps.pure); (case hop => rfl); (case hw => rfl); (case hdst => rfl); (case hd => rfl))
    | (first | with_reducible apply ROps.nil | with_reducible apply DOps.nil)
    | (with_reducible apply Runs.seq)
    | (with_reducible apply Runs.region tysOK)
    | ((with_reducible apply Runs.drawnE [] tysOK mixed); (case hB => kernel_rfl))
    | (with_reducible apply Runs.block)
    | (with_reducible apply Runs.skip)
    | (with_reducible apply Runs.inBlock)
    | (with_reducible apply Runs.scope)
    | (with_reducible apply Runs.inScope)
    | (with_reducible apply Runs.label)
    | ((with_reducible apply Runs.condT); (case ho => rfl))
    | ((with_reducible apply Runs.condF); (case ho => rfl))
    | ((with_reducible apply Runs.exit); (case he => rfl))
    | ((first | with_reducible apply ROps.store | with_reducible apply DOps.store); (case hop => rfl); (case hp => rfl); (case hR => rfl); (case hc => rfl); (case hl => first | (dsimp only [setR_one, setR, Nat.beq, cond]; done) | (dsimp only [setR_one, setR, Nat.beq, cond]; rfl) | rfl); (case hl' => first | (dsimp only [List.take, List.drop, List.append, List.nil_append, List.cons_append, List.map, List.length, Nat.add]; rfl) | rfl); (case hw => rfl); (all_goals try rfl))
    | ((first | with_reducible apply ROps.cmp | with_reducible apply DOps.cmp); (case hop => exact cmpX); (case hw => rfl); (case hdst => rfl); (case hd => rfl); (all_goals (intro h; first | (replace H := ite_pos_ h H) | (replace H := ite_neg_ h H) | (replace H := dec_pos h H) | (replace H := dec_neg h H) | (replace H := dec_t h H) | (replace H := dec_f h H) | (replace H := ite_pos_ (Decidable.not_not.1 h) H) | ((try simp only [rd_T68, rdOf] at h); (try simp only [rd_T68, rdOf] at H); (rw [decide_eq_true h] at H)) | ((try simp only [rd_T68, rdOf] at h); (try simp only [rd_T68, rdOf] at H); (rw [decide_eq_false h] at H)) | ((try simp only [rd_T68, rdOf] at h); (try simp only [rd_T68, rdOf] at H); (rw [if_pos h] at H)) | ((try simp only [rd_T68, rdOf] at h); (try simp only [rd_T68, rdOf] at H); (rw [if_neg h] at H)) | contradiction | skip)))
    | ((first | with_reducible apply ROps.val | with_reducible apply DOps.val); (case hop => exact valX); (case hw => rfl); (case hdst => rfl); (case hd => rfl))
    | ((first | with_reducible apply ROps.idx | with_reducible apply DOps.idx); (case hop => rfl); (case hx => rfl); (case hi => rfl); (case he => rfl); (case hw => rfl); (case hdst => rfl); (case hd => rfl); (case h0 => first | assumption | omega); (case h1 => first | assumption | omega))
    | ((with_reducible apply ROps.alloc); (case hop => rfl); (case hw => rfl); (all_goals try rfl))
    | ((first | with_reducible apply ROps.off | with_reducible apply DOps.off); (case hw => rfl); (case hdst => rfl); (case hd => rfl))
    | ((with_reducible have hB : (record_Right.f _ _ _ _).bind _ = some _ := H); clear hB; (replace H := bind_some' H); (obtain ⟨t_, H1, H⟩ := H); (try dsimp only at H); (first | with_reducible apply ROps.call | with_reducible apply DOps.call); (case hop => rfl); (case hc => exact record_Right.ok H1); (case ha => exact argsX); (case hw => rfl); (case hdst => rfl); (case hd => rfl))
    | ((with_reducible apply Runs.loopK1 ((fun i0 i1 i2 => fun kk (v0_7 : Int) => table_Right.l0 kk i0 i1 i2 v0_7) _ _ _) [0, 5, 6] [] (fun b v0_7 => [(7, .imm (.int .i64 v0_7))]) (fun v0_7 => []) _ _ [] H); (case h0 => intros; rfl); (any_goals (clear H; intro k0 hk0 ih0 v0_7 H; replace H : table_Right.l0 (k0 + 1) _ _ _ v0_7 = some _ := H; rw [table_Right.l0] at H)))
    | (with_reducible apply ih0 _ _ [] _ _ (by omega) H)
    | ((with_reducible apply Runs.retP tysOK); (case hrs => rfl); (case h => rfl); (case hr => (cases H; exact refX)); (case hx => rfl))
    | exact leRX)
end Go.Proofs.Ytopbcamlagdieaa.PStats
set_option linter.unusedVariables false
set_option linter.unusedSimpArgs false
namespace Go.Proofs.Ytopbcamlagdieaa.PStats
open Go.RowKit Go.Proofs.YtopbcamlagdieaaW.PrintWords Go.Proofs.YtopbcamlagdieaaW.PrintLast Go.Proofs.YtopbcamlagdieaaW.PrintMore Go.Proofs.Ytopbcamlagdieaa.Abs
/-! ### stats_add: function 18 -/
def stats_add.l0 : Nat → List (Int) → Int → Int → Option (Int)
  | 0, _, _, _ => none
  | k + 1, p1, v2, v3 => (if v3 < (p1.length : Int) then (if 0 ≤ v3 then (stats_add.l0 k p1 (wrap64 (v2 + (rdOf 0 p1 v3))) (wrap64 (v3 + 1))) else none) else (some v2))
def stats_add.f (k : Nat) (p1 : List (Int)) (g0_0 : Int) (g0_1 : Int) (g0_2 : Int) (g0_3 : Int) (g0_4 : Int) (g0_5 : Int) (g0_6 : Int) : Option (Int) := (stats_add.l0 k p1 g0_2 0)
noncomputable def stats_add.cx : Cx := ⟨Try.prog, tys, glo, 19, Try.f18, [], 1⟩
def stats_add.Sl0 (o1 : Int) (g0_0 : Int) (g0_1 : Int) (g0_3 : Int) (g0_4 : Int) (g0_5 : Int) (g0_6 : Int) (k : Nat) : Prop := ∀ (p1 : List (Int)) (v2 : Int) (v3 : Int), stats_add.l0 k p1 v2 v3 = some o1 → Runs stats_add.cx (MutF (.tup []) [.mat 1 7 (fun _ => [.imm (.int .i64 g0_0), .imm (.int .i64 g0_1), .imm (.int .i64 o1), .imm (.int .i64 g0_3), .imm (.int .i64 g0_4), .imm (.int .i64 g0_5), .imm (.int .i64 g0_6)])]) [.code (cP (bodyOf Try.f18) [1, 0, 0]), .inLoop (cP (bodyOf Try.f18) [1, 0, 0]), .inBlock 0] (overF none_ [(0, .loc 0 0 2), (6, vI .i64 p1), (7, .imm (.int .i64 (p1.length : Int))), (8, .imm (.int .i64 v3))]) [.mat 1 7 (fun _ => [.imm (.int .i64 g0_0), .imm (.int .i64 g0_1), .imm (.int .i64 v2), .imm (.int .i64 g0_3), .imm (.int .i64 g0_4), .imm (.int .i64 g0_5), .imm (.int .i64 g0_6)])]
def stats_add.Sf (o1 : Int) (g0_0 : Int) (g0_1 : Int) (g0_3 : Int) (g0_4 : Int) (g0_5 : Int) (g0_6 : Int) (k : Nat) : Prop := ∀ (p1 : List (Int)) (g0_2 : Int), stats_add.f k p1 g0_0 g0_1 g0_2 g0_3 g0_4 g0_5 g0_6 = some o1 → Runs stats_add.cx (MutF (.tup []) [.mat 1 7 (fun _ => [.imm (.int .i64 g0_0), .imm (.int .i64 g0_1), .imm (.int .i64 o1), .imm (.int .i64 g0_3), .imm (.int .i64 g0_4), .imm (.int .i64 g0_5), .imm (.int .i64 g0_6)])]) [.code (bodyOf Try.f18)] (frame0 [.loc 0 0 2, vI .i64 p1]) [.mat 1 7 (fun _ => [.imm (.int .i64 g0_0), .imm (.int .i64 g0_1), .imm (.int .i64 g0_2), .imm (.int .i64 g0_3), .imm (.int .i64 g0_4), .imm (.int .i64 g0_5), .imm (.int .i64 g0_6)])]
set_option maxHeartbeats 64000000 in
set_option maxRecDepth 100000 in
theorem stats_add.seg (o1 : Int) (g0_0 : Int) (g0_1 : Int) (g0_3 : Int) (g0_4 : Int) (g0_5 : Int) (g0_6 : Int) : (∀ k, stats_add.Sl0 o1 g0_0 g0_1 g0_3 g0_4 g0_5 g0_6 k) ∧ ∀ k, (stats_add.Sl0 o1 g0_0 g0_1 g0_3 g0_4 g0_5 g0_6 k) → stats_add.Sf o1 g0_0 g0_1 g0_3 g0_4 g0_5 g0_6 k := by
  have hs : ∀ k, (stats_add.Sl0 o1 g0_0 g0_1 g0_3 g0_4 g0_5 g0_6 k) → (stats_add.Sl0 o1 g0_0 g0_1 g0_3 g0_4 g0_5 g0_6 (k + 1)) ∧ stats_add.Sf o1 g0_0 g0_1 g0_3 g0_4 g0_5 g0_6 k := by
    intro k h
    have h_l0 := h
    refine ⟨?_, ?_⟩
    (intro p1 v2 v3 H; rw [stats_add.l0] at H; try dsimp only at H)
    rotate_left
    (intro p1 g0_2 H; unfold stats_add.f at H; try dsimp only at H)
    rotate_left
    repeat' (first
      | ((with_reducible have hJ : stats_add.l0 _ _ _ _ = some _ := H); clear hJ; (with_reducible apply Runs.loop); (apply Runs.le [some 0] (h_l0 _ _ _ H)))
      | ((with_reducible have hJ : stats_add.l0 _ _ _ _ = some _ := H); clear hJ; (with_reducible apply Runs.inLoop); (apply Runs.le [some 0] (h_l0 _ _ _ H)))
      | ((with_reducible replace H := some_ite H); obtain ⟨_, H⟩ := H)
      | ((with_reducible apply ROps.pure); (case hop => rfl); (case hw => rfl); (case hdst => rfl); (case hd => rfl))
      | (with_reducible apply ROps.nil)
      | (with_reducible apply Runs.seq)
      | (with_reducible apply Runs.region tysOK)
      | (with_reducible apply Runs.block)
      | (with_reducible apply Runs.skip)
      | (with_reducible apply Runs.inBlock)
      | (with_reducible apply Runs.scope)
      | (with_reducible apply Runs.inScope)
      | (with_reducible apply Runs.label)
      | ((with_reducible apply Runs.condT); (case ho => rfl))
      | ((with_reducible apply Runs.condF); (case ho => rfl))
      | ((with_reducible apply Runs.exit); (case he => rfl))
      | ((with_reducible apply ROps.store); (case hop => rfl); (case hp => rfl); (case hR => rfl); (case hc => rfl); (case hl => first | (dsimp only [setR_one, setR, Nat.beq, cond]; done) | (dsimp only [setR_one, setR, Nat.beq, cond]; rfl) | rfl); (case hl' => first | (dsimp only [List.take, List.drop, List.append, List.nil_append, List.cons_append, List.map, List.length, Nat.add]; rfl) | rfl); (case hw => rfl); (all_goals try rfl))
      | ((with_reducible apply ROps.cmp); (case hop => exact cmpX); (case hw => rfl); (case hdst => rfl); (case hd => rfl); (all_goals (intro h; first | (replace H := ite_pos_ h H) | (replace H := ite_neg_ h H) | (replace H := ite_pos_ (Decidable.not_not.1 h) H) | ((try simp only [rdOf] at h); (try simp only [rdOf] at H); (rw [if_pos h] at H)) | ((try simp only [rdOf] at h); (try simp only [rdOf] at H); (rw [if_neg h] at H)) | contradiction | skip)))
      | ((with_reducible apply ROps.val); (case hop => exact valX); (case hw => rfl); (case hdst => rfl); (case hd => rfl))
      | ((with_reducible apply ROps.idx); (case hop => rfl); (case hx => rfl); (case hi => rfl); (case he => rfl); (case hw => rfl); (case hdst => rfl); (case hd => rfl); (case h0 => first | assumption | omega); (case h1 => first | assumption | omega))
      | ((with_reducible have hS : some _ = some _ := H); clear hS; cases H; (first | with_reducible apply Runs.retM [some 0] tysOK | with_reducible apply Runs.fallM [some 0] tysOK); (case hrs => rfl); (case h => rfl); (case hx => exact refXX); (case hR => exact leRX))
      | exact leRX
      | (refine Runs.code_eq (p' := .seq _ _) rfl ?_)
      | (refine Runs.code_eq (p' := .region _ _ _) rfl ?_)
      | (refine Runs.code_eq (p' := .cond _ _ _) rfl ?_)
      | (refine Runs.code_eq (p' := .block _ _) rfl ?_)
      | (refine Runs.code_eq (p' := .loop _) rfl ?_)
      | (refine Runs.code_eq (p' := .exit _) rfl ?_)
      | (refine Runs.code_eq (p' := .ret) rfl ?_)
      | (refine Runs.code_eq (p' := .skip) rfl ?_)
      | (refine Runs.code_eq (p' := .label _) rfl ?_)
      | (refine Runs.code_eq (p' := .scope _) rfl ?_))
  refine ⟨fun k => ?_, fun k h => (hs k h).2⟩
  induction k with
  | zero => intro _ _ _ H; rw [stats_add.l0] at H; cases H
  | succ k ih => exact (hs k ih).1
theorem stats_add.okM {k : Nat} {p1 : List (Int)} {g0_0 : Int} {g0_1 : Int} {g0_2 : Int} {g0_3 : Int} {g0_4 : Int} {g0_5 : Int} {g0_6 : Int} {o1 : Int} (H : stats_add.f k p1 g0_0 g0_1 g0_2 g0_3 g0_4 g0_5 g0_6 = some o1) : CallM Try.prog glo 18 [.loc 0 0 2, vI .i64 p1] [.mat 1 7 (fun _ => [.imm (.int .i64 g0_0), .imm (.int .i64 g0_1), .imm (.int .i64 g0_2), .imm (.int .i64 g0_3), .imm (.int .i64 g0_4), .imm (.int .i64 g0_5), .imm (.int .i64 g0_6)])] (.tup []) [.mat 1 7 (fun _ => [.imm (.int .i64 g0_0), .imm (.int .i64 g0_1), .imm (.int .i64 o1), .imm (.int .i64 g0_3), .imm (.int .i64 g0_4), .imm (.int .i64 g0_5), .imm (.int .i64 g0_6)])] :=
  CallM.of (c := stats_add.cx) (p := bodyOf Try.f18) Try.func18 rfl rfl rfl (Nat.le_of_ble_eq_true rfl) rfl sameX bdX ((stats_add.seg o1 g0_0 g0_1 g0_3 g0_4 g0_5 g0_6).2 k ((stats_add.seg o1 g0_0 g0_1 g0_3 g0_4 g0_5 g0_6).1 k) p1 g0_2 H)
end Go.Proofs.Ytopbcamlagdieaa.PStats
set_option linter.unusedVariables false
set_option linter.unusedSimpArgs false
namespace Go.Proofs.Ytopbcamlagdieaa.PStats
open Go.RowKit Go.Proofs.YtopbcamlagdieaaW.PrintWords Go.Proofs.YtopbcamlagdieaaW.PrintLast Go.Proofs.YtopbcamlagdieaaW.PrintMore Go.Proofs.Ytopbcamlagdieaa.Abs
/-! ### table_Holds: function 40 -/
def table_Holds.f (a0_0 : Int) (a0_1 : Int) (a0_2 : Int) (a0_3 : ByteArray) (a1 : Int) : Option (Bool) := if a0_1 = 1 then (some (decide (a1 < a0_2))) else (some false)
noncomputable def table_Holds.cx : Cx := ⟨Try.prog, tys, glo, 14, Try.f40, [.tmp 4], 0⟩
set_option maxHeartbeats 16000000 in
set_option maxRecDepth 100000 in
theorem table_Holds.ok {a0_0 : Int} {a0_1 : Int} {a0_2 : Int} {a0_3 : ByteArray} {a1 : Int} {r0 : Bool} (H : table_Holds.f a0_0 a0_1 a0_2 a0_3 a1 = some r0) : CallOK Try.prog glo 40 [.agg [.imm (.int .i64 a0_0), .imm (.int .i64 a0_1), .imm (.int .i64 a0_2), .imm (.string a0_3)], .imm (.int .i64 a1)] (.imm (.bool r0)) := by
  unfold table_Holds.f at H
  refine CallOK.of (c := table_Holds.cx) Try.func40 (show (table_Holds.cx).fn.body = some _ from rfl) rfl rfl (Nat.le_of_ble_eq_true rfl) rfl ?_
  repeat' (first
    | ((with_reducible replace H := some_ite H); obtain ⟨_, H⟩ := H)
    | (with_reducible replace H := true_ite H)
    | (with_reducible replace H := false_ite H)
    | ((with_reducible have hb := bool_ite H); clear H; rcases hb with ⟨e_, H⟩ | ⟨e_, H⟩ <;> subst e_)
    | ((with_reducible apply ROps.pure); (case hop => rfl); (case hw => rfl); (case hdst => rfl); (case hd => rfl))
    | (with_reducible apply ROps.nil)
    | (with_reducible apply Runs.seq)
    | (with_reducible apply Runs.region tysOK)
    | (with_reducible apply Runs.scope)
    | (with_reducible apply Runs.inScope)
    | (with_reducible apply Runs.label)
    | ((with_reducible apply ROps.cmp); (case hop => exact cmpX); (case hw => rfl); (case hdst => rfl); (case hd => rfl); (all_goals (intro h; first | (replace H := ite_pos_ h H) | (replace H := ite_neg_ h H) | (replace H := dec_pos h H) | (replace H := dec_neg h H) | (replace H := dec_t h H) | (replace H := dec_f h H) | (replace H := beq_pos h H) | (replace H := beq_neg h H) | (replace H := beq_tt h H) | (replace H := beq_ff h H) | (replace H := ite_pos_ (Decidable.not_not.1 h) H) | (replace H := beq_pos (Decidable.not_not.1 h) H) | (replace H := beq_tt (Decidable.not_not.1 h) H) | ((try simp only [rdOf] at h); (try simp only [rdOf] at H); (rw [decide_eq_true h] at H)) | ((try simp only [rdOf] at h); (try simp only [rdOf] at H); (rw [decide_eq_false h] at H)) | ((try simp only [rdOf] at h); (try simp only [rdOf] at H); (rw [beq_t h] at H)) | ((try simp only [rdOf] at h); (try simp only [rdOf] at H); (rw [beq_f h] at H)) | ((try simp only [rdOf] at h); (try simp only [rdOf] at H); (rw [bne_t h] at H)) | ((try simp only [rdOf] at h); (try simp only [rdOf] at H); (rw [bne_f h] at H)) | ((try simp only [rdOf] at h); (try simp only [rdOf] at H); (rw [beq_t (Decidable.not_not.1 h)] at H)) | ((try simp only [rdOf] at h); (try simp only [rdOf] at H); (rw [bne_f (Decidable.not_not.1 h)] at H)) | ((try simp only [rdOf] at h); (try simp only [rdOf] at H); (rw [if_pos h] at H)) | ((try simp only [rdOf] at h); (try simp only [rdOf] at H); (rw [if_neg h] at H)) | contradiction | skip)))
    | ((with_reducible apply ROps.val); (case hop => exact valX); (case hw => rfl); (case hdst => rfl); (case hd => rfl))
    | ((first | (with_reducible apply ROps.eqS; case hop => rfl) | (with_reducible apply ROps.neS; case hop => rfl)); (case ht => rfl); (case hx => rfl); (case hy => rfl); (case hl => rfl); (case hr => rfl); (case hw => rfl); (case hdst => rfl); (case hd => rfl); (all_goals (intro h; first | (replace H := ite_posF H h) | (replace H := ite_negF H h) | (dsimp only [eqP, eqA] at h) | skip)))
    | ((with_reducible apply ROps.box); (case hop => rfl); (case hx => rfl); (case hrf => rfl); (case hw => rfl); (all_goals try rfl))
    | ((with_reducible apply ROps.off); (case hw => rfl); (case hdst => rfl); (case hd => rfl))
    | ((with_reducible apply Runs.retP tysOK); (case hrs => rfl); (case h => rfl); (case hr => (cases H; exact refX)); (case hx => rfl))
    | exact leRX)
end Go.Proofs.Ytopbcamlagdieaa.PStats
set_option linter.unusedVariables false
set_option linter.unusedSimpArgs false
namespace Go.Proofs.Ytopbcamlagdieaa.PStats
open Go.RowKit Go.Proofs.YtopbcamlagdieaaW.PrintWords Go.Proofs.YtopbcamlagdieaaW.PrintLast Go.Proofs.YtopbcamlagdieaaW.PrintMore Go.Proofs.Ytopbcamlagdieaa.Abs
/-! ### table_Rests: function 41 -/
def table_Rests.f (a0_0 : Int) (a0_1 : Int) (a0_2 : Int) (a0_3 : ByteArray) (a1 : Int) : Option (Bool) := if a0_1 = 3 then (some (decide (a1 < a0_2))) else (some false)
noncomputable def table_Rests.cx : Cx := ⟨Try.prog, tys, glo, 14, Try.f41, [.tmp 4], 0⟩
set_option maxHeartbeats 16000000 in
set_option maxRecDepth 100000 in
theorem table_Rests.ok {a0_0 : Int} {a0_1 : Int} {a0_2 : Int} {a0_3 : ByteArray} {a1 : Int} {r0 : Bool} (H : table_Rests.f a0_0 a0_1 a0_2 a0_3 a1 = some r0) : CallOK Try.prog glo 41 [.agg [.imm (.int .i64 a0_0), .imm (.int .i64 a0_1), .imm (.int .i64 a0_2), .imm (.string a0_3)], .imm (.int .i64 a1)] (.imm (.bool r0)) := by
  unfold table_Rests.f at H
  refine CallOK.of (c := table_Rests.cx) Try.func41 (show (table_Rests.cx).fn.body = some _ from rfl) rfl rfl (Nat.le_of_ble_eq_true rfl) rfl ?_
  repeat' (first
    | ((with_reducible replace H := some_ite H); obtain ⟨_, H⟩ := H)
    | (with_reducible replace H := true_ite H)
    | (with_reducible replace H := false_ite H)
    | ((with_reducible have hb := bool_ite H); clear H; rcases hb with ⟨e_, H⟩ | ⟨e_, H⟩ <;> subst e_)
    | ((with_reducible apply ROps.pure); (case hop => rfl); (case hw => rfl); (case hdst => rfl); (case hd => rfl))
    | (with_reducible apply ROps.nil)
    | (with_reducible apply Runs.seq)
    | (with_reducible apply Runs.region tysOK)
    | (with_reducible apply Runs.scope)
    | (with_reducible apply Runs.inScope)
    | (with_reducible apply Runs.label)
    | ((with_reducible apply ROps.cmp); (case hop => exact cmpX); (case hw => rfl); (case hdst => rfl); (case hd => rfl); (all_goals (intro h; first | (replace H := ite_pos_ h H) | (replace H := ite_neg_ h H) | (replace H := dec_pos h H) | (replace H := dec_neg h H) | (replace H := dec_t h H) | (replace H := dec_f h H) | (replace H := beq_pos h H) | (replace H := beq_neg h H) | (replace H := beq_tt h H) | (replace H := beq_ff h H) | (replace H := ite_pos_ (Decidable.not_not.1 h) H) | (replace H := beq_pos (Decidable.not_not.1 h) H) | (replace H := beq_tt (Decidable.not_not.1 h) H) | ((try simp only [rdOf] at h); (try simp only [rdOf] at H); (rw [decide_eq_true h] at H)) | ((try simp only [rdOf] at h); (try simp only [rdOf] at H); (rw [decide_eq_false h] at H)) | ((try simp only [rdOf] at h); (try simp only [rdOf] at H); (rw [beq_t h] at H)) | ((try simp only [rdOf] at h); (try simp only [rdOf] at H); (rw [beq_f h] at H)) | ((try simp only [rdOf] at h); (try simp only [rdOf] at H); (rw [bne_t h] at H)) | ((try simp only [rdOf] at h); (try simp only [rdOf] at H); (rw [bne_f h] at H)) | ((try simp only [rdOf] at h); (try simp only [rdOf] at H); (rw [beq_t (Decidable.not_not.1 h)] at H)) | ((try simp only [rdOf] at h); (try simp only [rdOf] at H); (rw [bne_f (Decidable.not_not.1 h)] at H)) | ((try simp only [rdOf] at h); (try simp only [rdOf] at H); (rw [if_pos h] at H)) | ((try simp only [rdOf] at h); (try simp only [rdOf] at H); (rw [if_neg h] at H)) | contradiction | skip)))
    | ((with_reducible apply ROps.val); (case hop => exact valX); (case hw => rfl); (case hdst => rfl); (case hd => rfl))
    | ((first | (with_reducible apply ROps.eqS; case hop => rfl) | (with_reducible apply ROps.neS; case hop => rfl)); (case ht => rfl); (case hx => rfl); (case hy => rfl); (case hl => rfl); (case hr => rfl); (case hw => rfl); (case hdst => rfl); (case hd => rfl); (all_goals (intro h; first | (replace H := ite_posF H h) | (replace H := ite_negF H h) | (dsimp only [eqP, eqA] at h) | skip)))
    | ((with_reducible apply ROps.box); (case hop => rfl); (case hx => rfl); (case hrf => rfl); (case hw => rfl); (all_goals try rfl))
    | ((with_reducible apply ROps.off); (case hw => rfl); (case hdst => rfl); (case hd => rfl))
    | ((with_reducible apply Runs.retP tysOK); (case hrs => rfl); (case h => rfl); (case hr => (cases H; exact refX)); (case hx => rfl))
    | exact leRX)
end Go.Proofs.Ytopbcamlagdieaa.PStats
set_option linter.unusedVariables false
set_option linter.unusedSimpArgs false
namespace Go.Proofs.Ytopbcamlagdieaa.PStats
open Go.RowKit Go.Proofs.YtopbcamlagdieaaW.PrintWords Go.Proofs.YtopbcamlagdieaaW.PrintLast Go.Proofs.YtopbcamlagdieaaW.PrintMore Go.Proofs.Ytopbcamlagdieaa.Abs
/-! ### table_good: function 74 -/
def table_good.f (k : Nat) (l0 : List (S68)) : Option ((List (S68))) := (table_Right.f k l0).bind fun t205 => (if t205 = true then ((some (([] : List (S68)) : List (S68))).bind fun y206 => (if y206.length + l0.length < 3518437208883 then (some (y206 ++ l0)) else (none))) else (some ([] : List (S68))))
noncomputable def table_good.cx : Cx := ⟨Try.prog, tys, glo, 9, Try.f74, [.tmp 2], 0⟩
set_option maxHeartbeats 16000000 in
set_option maxRecDepth 100000 in
theorem table_good.ok {k : Nat} {l0 : List (S68)} {r0 : List (S68)} (H : table_good.f k l0 = some r0) : CallOK Try.prog glo 74 [vS68 l0] (vS68 r0) := by
  unfold table_good.f at H
  refine CallOK.of (c := table_good.cx) Try.func74 (show (table_good.cx).fn.body = some _ from rfl) rfl rfl (Nat.le_of_ble_eq_true rfl) rfl ?_
  repeat' (first
    | ((with_reducible apply ROps.litO); (case hdst => exact (rfl : _ = some 6)); (case hop => rfl); (case hti => rfl); (case hsz => rfl); (case hl => rfl); (case hrf => rfl); (case hw => rfl); (all_goals try rfl))
    | ((with_reducible replace H := some_ite H); obtain ⟨_, H⟩ := H)
    | (with_reducible replace H := some_bind_ H)
    | (with_reducible replace H := true_ite H)
    | (with_reducible replace H := false_ite H)
    | ((with_reducible have hb := bool_ite H); clear H; rcases hb with ⟨e_, H⟩ | ⟨e_, H⟩ <;> subst e_)
    | ((with_reducible apply ROps.pure); (case hop => rfl); (case hw => rfl); (case hdst => rfl); (case hd => rfl))
    | (with_reducible apply ROps.nil)
    | (with_reducible apply Runs.seq)
    | (with_reducible apply Runs.region tysOK)
    | (with_reducible apply Runs.skip)
    | (with_reducible apply Runs.scope)
    | (with_reducible apply Runs.inScope)
    | (with_reducible apply Runs.label)
    | ((with_reducible apply Runs.condT); (case ho => rfl))
    | ((with_reducible apply Runs.condF); (case ho => rfl))
    | ((with_reducible apply ROps.lit); (case hop => rfl); (case hti => rfl); (case hsz => rfl); (case hl => rfl); (case hrf => rfl); (case hw => rfl); (all_goals try rfl))
    | ((with_reducible apply ROps.app); (case hop => rfl); (case hti => rfl); (case hsz => rfl); (case hs => rfl); (case hR => rfl); (case hx => rfl); (case hb => constructor <;> ((try simp only [maxLen, List.length_nil, List.length_cons, List.length_append] at *); omega)); (case hw => rfl); (all_goals try rfl))
    | ((with_reducible apply ROps.appN); (case hop => rfl); (case hti => rfl); (case hsz => rfl); (case hs => rfl); (case hx => rfl); (case hb => constructor <;> ((try simp only [maxLen, List.length_nil, List.length_cons, List.length_append] at *); omega)); (case hw => rfl); (all_goals try rfl))
    | ((with_reducible have hB : (table_Right.f _ _).bind _ = some _ := H); clear hB; (replace H := bind_some' H); (obtain ⟨t_, H1, H⟩ := H); (try dsimp only at H); (with_reducible apply ROps.call); (case hop => rfl); (case hc => exact table_Right.ok H1); (case ha => exact argsX); (case hw => rfl); (case hdst => rfl); (case hd => rfl))
    | ((with_reducible apply Runs.retP tysOK); (case hrs => rfl); (case h => rfl); (case hr => (cases H; exact refX)); (case hx => rfl))
    | exact leRX)
end Go.Proofs.Ytopbcamlagdieaa.PStats
set_option linter.unusedVariables false
set_option linter.unusedSimpArgs false
namespace Go.Proofs.Ytopbcamlagdieaa.PStats
open Go.RowKit Go.Proofs.YtopbcamlagdieaaW.PrintWords Go.Proofs.YtopbcamlagdieaaW.PrintLast Go.Proofs.YtopbcamlagdieaaW.PrintMore Go.Proofs.Ytopbcamlagdieaa.Abs
/-! ### table_place: function 75 -/
def table_place.l0 : Nat → List (S68) → Int → Int → Int → Option (Int × Bool)
  | 0, _, _, _, _ => none
  | k + 1, x0, x1, x6, x7 => if x6 < x7 then (if 0 ≤ (wrap64 (Int.tdiv (wrap64 (x6 + x7)) 2)) then (if (wrap64 (Int.tdiv (wrap64 (x6 + x7)) 2)) < (x0.length : Int) then (if ((rd_T68 x0 (wrap64 (Int.tdiv (wrap64 (x6 + x7)) 2))).f0) = x1 then (some (wrap64 (Int.tdiv (wrap64 (x6 + x7)) 2), (((rd_T68 x0 (wrap64 (Int.tdiv (wrap64 (x6 + x7)) 2))).f0) == x1))) else (if ((rd_T68 x0 (wrap64 (Int.tdiv (wrap64 (x6 + x7)) 2))).f0) < x1 then (table_place.l0 k x0 x1 (wrap64 ((wrap64 (Int.tdiv (wrap64 (x6 + x7)) 2)) + 1)) x7) else (table_place.l0 k x0 x1 x6 (wrap64 (Int.tdiv (wrap64 (x6 + x7)) 2))))) else (none)) else (none)) else (if x6 < (x0.length : Int) then (if 0 ≤ x6 then (some (x6, (((rd_T68 x0 x6).f0) == x1))) else (none)) else (some (x6, false)))
def table_place.f (k : Nat) (l0 : List (S68)) (a1 : Int) : Option (Int × Bool) := table_place.l0 k l0 a1 0 (l0.length : Int)
noncomputable def table_place.cx : Cx := ⟨Try.prog, tys, glo, 52, Try.f75, [.tmp 4, .tmp 5], 0⟩
set_option maxHeartbeats 16000000 in
set_option maxRecDepth 100000 in
theorem table_place.ok {k : Nat} {l0 : List (S68)} {a1 : Int} {r0 : Int} {r1 : Bool} (H : table_place.f k l0 a1 = some (r0, r1)) : CallOK Try.prog glo 75 [vS68 l0, .imm (.int .i64 a1)] (.tup [.imm (.int .i64 r0), .imm (.bool r1)]) := by
  unfold table_place.f at H
  refine CallOK.of (c := table_place.cx) Try.func75 (show (table_place.cx).fn.body = some _ from rfl) rfl rfl (Nat.le_of_ble_eq_true rfl) rfl ?_
  repeat' (first
    | ((with_reducible replace H := some_ite H); obtain ⟨_, H⟩ := H)
    | (with_reducible replace H := true_ite H)
    | (with_reducible replace H := false_ite H)
    | ((with_reducible have hb := bool_ite H); clear H; rcases hb with ⟨e_, H⟩ | ⟨e_, H⟩ <;> subst e_)
    | ((first | with_reducible apply ROps.pure | with_reducible apply DOps.pure); (case hop => rfl); (case hw => rfl); (case hdst => rfl); (case hd => rfl))
    | (first | with_reducible apply ROps.nil | with_reducible apply DOps.nil)
    | (with_reducible apply Runs.seq)
    | (with_reducible apply Runs.region tysOK)
    | ((with_reducible apply Runs.drawnE [] tysOK mixed); (case hB => kernel_rfl))
    | (with_reducible apply Runs.block)
    | (with_reducible apply Runs.skip)
    | (with_reducible apply Runs.inBlock)
    | (with_reducible apply Runs.scope)
    | (with_reducible apply Runs.inScope)
    | (with_reducible apply Runs.label)
    | ((with_reducible apply Runs.condT); (case ho => rfl))
    | ((with_reducible apply Runs.condF); (case ho => rfl))
    | ((with_reducible apply Runs.exit); (case he => rfl))
    | ((first | with_reducible apply ROps.cmp | with_reducible apply DOps.cmp); (case hop => exact cmpX); (case hw => rfl); (case hdst => rfl); (case hd => rfl); (all_goals (intro h; first | (replace H := ite_pos_ h H) | (replace H := ite_neg_ h H) | (replace H := dec_pos h H) | (replace H := dec_neg h H) | (replace H := dec_t h H) | (replace H := dec_f h H) | (replace H := beq_pos h H) | (replace H := beq_neg h H) | (replace H := beq_tt h H) | (replace H := beq_ff h H) | (replace H := ite_pos_ (Decidable.not_not.1 h) H) | (replace H := beq_pos (Decidable.not_not.1 h) H) | (replace H := beq_tt (Decidable.not_not.1 h) H) | ((try simp only [rd_T68, rdOf] at h); (try simp only [rd_T68, rdOf] at H); (rw [decide_eq_true h] at H)) | ((try simp only [rd_T68, rdOf] at h); (try simp only [rd_T68, rdOf] at H); (rw [decide_eq_false h] at H)) | ((try simp only [rd_T68, rdOf] at h); (try simp only [rd_T68, rdOf] at H); (rw [beq_t h] at H)) | ((try simp only [rd_T68, rdOf] at h); (try simp only [rd_T68, rdOf] at H); (rw [beq_f h] at H)) | ((try simp only [rd_T68, rdOf] at h); (try simp only [rd_T68, rdOf] at H); (rw [bne_t h] at H)) | ((try simp only [rd_T68, rdOf] at h); (try simp only [rd_T68, rdOf] at H); (rw [bne_f h] at H)) | ((try simp only [rd_T68, rdOf] at h); (try simp only [rd_T68, rdOf] at H); (rw [beq_t (Decidable.not_not.1 h)] at H)) | ((try simp only [rd_T68, rdOf] at h); (try simp only [rd_T68, rdOf] at H); (rw [bne_f (Decidable.not_not.1 h)] at H)) | ((try simp only [rd_T68, rdOf] at h); (try simp only [rd_T68, rdOf] at H); (rw [if_pos h] at H)) | ((try simp only [rd_T68, rdOf] at h); (try simp only [rd_T68, rdOf] at H); (rw [if_neg h] at H)) | contradiction | skip)))
    | ((first | with_reducible apply ROps.val | with_reducible apply DOps.val); (case hop => exact valX); (case hw => rfl); (case hdst => rfl); (case hd => rfl))
    | ((first | (with_reducible apply ROps.eqS; case hop => rfl) | (with_reducible apply DOps.eqS; case hop => rfl) | (with_reducible apply ROps.neS; case hop => rfl) | (with_reducible apply DOps.neS; case hop => rfl)); (case ht => rfl); (case hx => rfl); (case hy => rfl); (case hl => rfl); (case hr => rfl); (case hw => rfl); (case hdst => rfl); (case hd => rfl); (all_goals (intro h; first | (replace H := ite_posF H h) | (replace H := ite_negF H h) | (dsimp only [eqP, eqA] at h) | skip)))
    | ((first | with_reducible apply ROps.idx | with_reducible apply DOps.idx); (case hop => rfl); (case hx => rfl); (case hi => rfl); (case he => rfl); (case hw => rfl); (case hdst => rfl); (case hd => rfl); (case h0 => first | assumption | omega); (case h1 => first | assumption | omega))
    | ((first | with_reducible apply ROps.off | with_reducible apply DOps.off); (case hw => rfl); (case hdst => rfl); (case hd => rfl))
    | ((with_reducible apply Runs.loopK2 ((fun i0 i1 => fun kk (v0_6 : Int) (v0_7 : Int) => table_place.l0 kk i0 i1 v0_6 v0_7) _ _) [0, 1] [] (fun b v0_6 v0_7 => [(6, .imm (.int .i64 v0_6)), (7, .imm (.int .i64 v0_7))]) (fun v0_6 v0_7 => []) _ _ _ [] H); (case h0 => intros; rfl); (any_goals (clear H; intro k0 hk0 ih0 v0_6 v0_7 H; replace H : table_place.l0 (k0 + 1) _ _ v0_6 v0_7 = some _ := H; rw [table_place.l0] at H)))
    | (with_reducible apply ih0 _ _ _ [] _ _ (by omega) H)
    | ((with_reducible apply Runs.retP tysOK); (case hrs => rfl); (case h => rfl); (case hr => (cases H; exact refX)); (case hx => rfl))
    | exact leRX)
end Go.Proofs.Ytopbcamlagdieaa.PStats
set_option linter.unusedVariables false
set_option linter.unusedSimpArgs false
namespace Go.Proofs.Ytopbcamlagdieaa.PStats
open Go.RowKit Go.Proofs.YtopbcamlagdieaaW.PrintWords Go.Proofs.YtopbcamlagdieaaW.PrintLast Go.Proofs.YtopbcamlagdieaaW.PrintMore Go.Proofs.Ytopbcamlagdieaa.Abs
/-! ### table_Get: function 51 -/
def table_Get.f (k : Nat) (l0 : List (S68)) (a1 : Int) : Option (Int × Int × Int × ByteArray × Bool) := (table_good.f k l0).bind fun t217 => ((table_place.f k t217 a1).bind fun bt220 => (if bt220.2 = true then (if 0 ≤ bt220.1 then (if bt220.1 < (t217.length : Int) then (some ((rd_T68 t217 bt220.1).f0, (rd_T68 t217 bt220.1).f1, (rd_T68 t217 bt220.1).f2, (rd_T68 t217 bt220.1).f3, true)) else (none)) else (none)) else (some (0, 0, 0, (⟨#[]⟩ : ByteArray), false))))
noncomputable def table_Get.cx : Cx := ⟨Try.prog, tys, glo, 23, Try.f51, [.cell 4 68, .tmp 5], 0⟩
set_option maxHeartbeats 16000000 in
set_option maxRecDepth 100000 in
theorem table_Get.ok {k : Nat} {l0 : List (S68)} {a1 : Int} {r0 : Int} {r1 : Int} {r2 : Int} {r3 : ByteArray} {r4 : Bool} (H : table_Get.f k l0 a1 = some (r0, r1, r2, r3, r4)) : CallOK Try.prog glo 51 [vS68 l0, .imm (.int .i64 a1)] (.tup [.agg [.imm (.int .i64 r0), .imm (.int .i64 r1), .imm (.int .i64 r2), .imm (.string r3)], .imm (.bool r4)]) := by
  unfold table_Get.f at H
  refine CallOK.of (c := table_Get.cx) Try.func51 (show (table_Get.cx).fn.body = some _ from rfl) rfl rfl (Nat.le_of_ble_eq_true rfl) rfl ?_
  repeat' (first
    | ((with_reducible replace H := some_ite H); obtain ⟨_, H⟩ := H)
    | (with_reducible replace H := true_ite H)
    | (with_reducible replace H := false_ite H)
    | ((with_reducible have hb := bool_ite H); clear H; rcases hb with ⟨e_, H⟩ | ⟨e_, H⟩ <;> subst e_)
    | ((with_reducible apply ROps.pure); (case hop => rfl); (case hw => rfl); (case hdst => rfl); (case hd => rfl))
    | (with_reducible apply ROps.nil)
    | (with_reducible apply Runs.seq)
    | (with_reducible apply Runs.region tysOK)
    | (with_reducible apply Runs.skip)
    | (with_reducible apply Runs.scope)
    | (with_reducible apply Runs.inScope)
    | (with_reducible apply Runs.label)
    | ((with_reducible apply Runs.condT); (case ho => rfl))
    | ((with_reducible apply Runs.condF); (case ho => rfl))
    | ((with_reducible apply ROps.store); (case hop => rfl); (case hp => rfl); (case hR => rfl); (case hc => rfl); (case hl => first | (dsimp only [setR_one, setR, Nat.beq, cond]; done) | (dsimp only [setR_one, setR, Nat.beq, cond]; rfl) | rfl); (case hl' => first | (dsimp only [List.take, List.drop, List.append, List.nil_append, List.cons_append, List.map, List.length, Nat.add]; rfl) | rfl); (case hw => rfl); (all_goals try rfl))
    | ((with_reducible apply ROps.idx); (case hop => rfl); (case hx => rfl); (case hi => rfl); (case he => rfl); (case hw => rfl); (case hdst => rfl); (case hd => rfl); (case h0 => first | assumption | omega); (case h1 => first | assumption | omega))
    | ((with_reducible apply ROps.alloc); (case hop => rfl); (case hw => rfl); (all_goals try rfl))
    | ((with_reducible have hB : (table_good.f _ _).bind _ = some _ := H); clear hB; (replace H := bind_some' H); (obtain ⟨t_, H1, H⟩ := H); (try dsimp only at H); (with_reducible apply ROps.call); (case hop => rfl); (case hc => exact table_good.ok H1); (case ha => exact argsX); (case hw => rfl); (case hdst => rfl); (case hd => rfl))
    | ((with_reducible have hB : (table_place.f _ _ _).bind _ = some _ := H); clear hB; (replace H := bind_some' H); (obtain ⟨⟨t_0, t_1⟩, H1, H⟩ := H); (try dsimp only at H); (with_reducible apply ROps.call); (case hop => rfl); (case hc => exact table_place.ok H1); (case ha => exact argsX); (case hw => rfl); (case hdst => rfl); (case hd => rfl))
    | ((with_reducible apply Runs.retP tysOK); (case hrs => rfl); (case h => rfl); (case hr => (cases H; exact refX)); (case hx => rfl))
    | exact leRX)
end Go.Proofs.Ytopbcamlagdieaa.PStats
set_option linter.unusedVariables false
set_option linter.unusedSimpArgs false
namespace Go.Proofs.Ytopbcamlagdieaa.PStats
open Go.RowKit Go.Proofs.YtopbcamlagdieaaW.PrintWords Go.Proofs.YtopbcamlagdieaaW.PrintLast Go.Proofs.YtopbcamlagdieaaW.PrintMore Go.Proofs.Ytopbcamlagdieaa.Abs
/-! ### stats_some: function 42 -/
mutual
def stats_some.l0 : Nat → List (S68) → List (S56) → Int → List (Int) → Option (List (Int))
  | 0, _, _, _, _ => none
  | k + 1, p1, p0_2, v1, v2 => (if v1 < (p1.length : Int) then (if 0 ≤ v1 then (if v2.length + 1 ≤ 17592186044416 then (stats_some.l0 k p1 p0_2 (wrap64 (v1 + 1)) (v2 ++ ([(rd_T68 p1 v1).f0] : List (Int)))) else none) else none) else (stats_some.l1 k p0_2 p1 0 v2))
def stats_some.l1 : Nat → List (S56) → List (S68) → Int → List (Int) → Option (List (Int))
  | 0, _, _, _, _ => none
  | k + 1, p0_2, p1, v3, v4 => (if v3 < (p0_2.length : Int) then (if 0 ≤ v3 then (stats_some.l2 k p0_2 v3 p1 0 v4) else none) else (some v4))
def stats_some.l2 : Nat → List (S56) → Int → List (S68) → Int → List (Int) → Option (List (Int))
  | 0, _, _, _, _, _ => none
  | k + 1, p0_2, v3, p1, v5, v6 => (if v5 < ((rd_T56 p0_2 v3).f0.length : Int) then (if 0 ≤ v5 then (stats_some.l3 k p0_2 v3 v5 p1 0 v6) else none) else (stats_some.l1 k p0_2 p1 (wrap64 (v3 + 1)) v6))
def stats_some.l3 : Nat → List (S56) → Int → Int → List (S68) → Int → List (Int) → Option (List (Int))
  | 0, _, _, _, _, _, _ => none
  | k + 1, p0_2, v3, v5, p1, v7, v8 => (if v7 < ((rd_T60 (rd_T56 p0_2 v3).f0 v5).f3.length : Int) then (if 0 ≤ v7 then ((table_Get.f k p1 ((rd_T65 (rd_T60 (rd_T56 p0_2 v3).f0 v5).f3 v7).f1)).bind fun b9 => (if (!b9.2.2.2.2) = true then (if v8.length + 1 ≤ 17592186044416 then (stats_some.l3 k p0_2 v3 v5 p1 (wrap64 (v7 + 1)) (v8 ++ ([(rd_T65 (rd_T60 (rd_T56 p0_2 v3).f0 v5).f3 v7).f1] : List (Int)))) else none) else (stats_some.l3 k p0_2 v3 v5 p1 (wrap64 (v7 + 1)) v8))) else none) else (stats_some.l2 k p0_2 v3 p1 (wrap64 (v5 + 1)) v8))
end
def stats_some.f (k : Nat) (p0_0 : Int) (p0_1 : Int) (p0_2 : List (S56)) (p1 : List (S68)) : Option (List (Int)) := (stats_some.l0 k p1 p0_2 0 ([] : List (Int)))
noncomputable def stats_some.cx : Cx := ⟨Try.prog, tys, glo, 67, Try.f42, [.tmp 4], 0⟩
def stats_some.Sl0 (r0 : List (Int)) (k : Nat) : Prop := ∀ (p0_0 : Int) (p0_1 : Int) (p1 : List (S68)) (p0_2 : List (S56)) (v1 : Int) (v2 : List (Int)), stats_some.l0 k p1 p0_2 v1 v2 = some r0 → Runs stats_some.cx (Pur (vI .i64 r0)) [.code (cP (bodyOf Try.f42) [1, 1, 0, 1, 0, 0]), .inLoop (cP (bodyOf Try.f42) [1, 1, 0, 1, 0, 0]), .inBlock 0, .code (cP (bodyOf Try.f42) [1, 1, 1])] (overF none_ [(1, vS68 p1), (16, vS68 p1), (17, .imm (.int .i64 (p1.length : Int))), (18, .imm (.int .i64 v1)), (2, .ptr [.imm (.int .i64 p0_0), .imm (.int .i64 p0_1), vS56 p0_2]), (5, .own 0 (v2).length 1 (rowsE (eInt .i64) 0 v2))]) [.arr 3 1 (v2).length]
def stats_some.Sl1 (r0 : List (Int)) (k : Nat) : Prop := ∀ (p0_2 : List (S56)) (p1 : List (S68)) (v3 : Int) (v4 : List (Int)), stats_some.l1 k p0_2 p1 v3 v4 = some r0 → Runs stats_some.cx (Pur (vI .i64 r0)) [.code (cP (bodyOf Try.f42) [1, 1, 1, 0, 1, 0, 0]), .inLoop (cP (bodyOf Try.f42) [1, 1, 1, 0, 1, 0, 0]), .inBlock 2, .code (cP (bodyOf Try.f42) [1, 1, 1, 1])] (overF none_ [(1, vS68 p1), (29, vS56 p0_2), (30, .imm (.int .i64 (p0_2.length : Int))), (31, .imm (.int .i64 v3)), (5, .own 0 (v4).length 1 (rowsE (eInt .i64) 0 v4))]) [.arr 3 1 (v4).length]
def stats_some.Sl2 (r0 : List (Int)) (k : Nat) : Prop := ∀ (p0_2 : List (S56)) (v3 : Int) (p1 : List (S68)) (v5 : Int) (v6 : List (Int)), stats_some.l2 k p0_2 v3 p1 v5 v6 = some r0 → Runs stats_some.cx (Pur (vI .i64 r0)) [.code (cP (bodyOf Try.f42) [1, 1, 1, 0, 1, 0, 0, 1, 1, 0, 0, 1, 1, 0, 0]), .inLoop (cP (bodyOf Try.f42) [1, 1, 1, 0, 1, 0, 0, 1, 1, 0, 0, 1, 1, 0, 0]), .inBlock 4, .inBlock 3, .code (cP (bodyOf Try.f42) [1, 1, 1, 0, 1, 0, 0, 1, 1, 1]), .inLoop (cP (bodyOf Try.f42) [1, 1, 1, 0, 1, 0, 0]), .inBlock 2, .code (cP (bodyOf Try.f42) [1, 1, 1, 1])] (overF none_ [(1, vS68 p1), (29, vS56 p0_2), (30, .imm (.int .i64 (p0_2.length : Int))), (31, .imm (.int .i64 v3)), (36, vS60 ((rd_T56 p0_2 v3).f0)), (37, .imm (.int .i64 ((rd_T56 p0_2 v3).f0.length : Int))), (38, .imm (.int .i64 v5)), (5, .own 0 (v6).length 1 (rowsE (eInt .i64) 0 v6))]) [.arr 3 1 (v6).length]
def stats_some.Sl3 (r0 : List (Int)) (k : Nat) : Prop := ∀ (p0_2 : List (S56)) (v3 : Int) (v5 : Int) (p1 : List (S68)) (v7 : Int) (v8 : List (Int)), stats_some.l3 k p0_2 v3 v5 p1 v7 v8 = some r0 → Runs stats_some.cx (Pur (vI .i64 r0)) [.code (cP (bodyOf Try.f42) [1, 1, 1, 0, 1, 0, 0, 1, 1, 0, 0, 1, 1, 0, 0, 1, 1, 0, 0, 1, 1, 0, 0]), .inLoop (cP (bodyOf Try.f42) [1, 1, 1, 0, 1, 0, 0, 1, 1, 0, 0, 1, 1, 0, 0, 1, 1, 0, 0, 1, 1, 0, 0]), .inBlock 6, .inBlock 5, .code (cP (bodyOf Try.f42) [1, 1, 1, 0, 1, 0, 0, 1, 1, 0, 0, 1, 1, 0, 0, 1, 1, 1]), .inLoop (cP (bodyOf Try.f42) [1, 1, 1, 0, 1, 0, 0, 1, 1, 0, 0, 1, 1, 0, 0]), .inBlock 4, .inBlock 3, .code (cP (bodyOf Try.f42) [1, 1, 1, 0, 1, 0, 0, 1, 1, 1]), .inLoop (cP (bodyOf Try.f42) [1, 1, 1, 0, 1, 0, 0]), .inBlock 2, .code (cP (bodyOf Try.f42) [1, 1, 1, 1])] (overF none_ [(1, vS68 p1), (29, vS56 p0_2), (30, .imm (.int .i64 (p0_2.length : Int))), (31, .imm (.int .i64 v3)), (36, vS60 ((rd_T56 p0_2 v3).f0)), (37, .imm (.int .i64 ((rd_T56 p0_2 v3).f0.length : Int))), (38, .imm (.int .i64 v5)), (43, vS65 ((rd_T60 (rd_T56 p0_2 v3).f0 v5).f3)), (44, .imm (.int .i64 ((rd_T60 (rd_T56 p0_2 v3).f0 v5).f3.length : Int))), (45, .imm (.int .i64 v7)), (5, .own 0 (v8).length 1 (rowsE (eInt .i64) 0 v8))]) [.arr 3 1 (v8).length]
def stats_some.Sf (r0 : List (Int)) (k : Nat) : Prop := ∀ (p0_0 : Int) (p0_1 : Int) (p0_2 : List (S56)) (p1 : List (S68)), stats_some.f k p0_0 p0_1 p0_2 p1 = some r0 → Runs stats_some.cx (Pur (vI .i64 r0)) [.code (bodyOf Try.f42)] (frame0 [.agg [.imm (.int .i64 p0_0), .imm (.int .i64 p0_1), vS56 p0_2], vS68 p1]) []
set_option maxHeartbeats 64000000 in
set_option maxRecDepth 100000 in
theorem stats_some.seg (r0 : List (Int)) : (∀ k, stats_some.Sl0 r0 k ∧ stats_some.Sl1 r0 k ∧ stats_some.Sl2 r0 k ∧ stats_some.Sl3 r0 k) ∧ ∀ k, (stats_some.Sl0 r0 k ∧ stats_some.Sl1 r0 k ∧ stats_some.Sl2 r0 k ∧ stats_some.Sl3 r0 k) → stats_some.Sf r0 k := by
  have hs : ∀ k, (stats_some.Sl0 r0 k ∧ stats_some.Sl1 r0 k ∧ stats_some.Sl2 r0 k ∧ stats_some.Sl3 r0 k) → (stats_some.Sl0 r0 (k + 1) ∧ stats_some.Sl1 r0 (k + 1) ∧ stats_some.Sl2 r0 (k + 1) ∧ stats_some.Sl3 r0 (k + 1)) ∧ stats_some.Sf r0 k := by
    intro k h
    obtain ⟨h_l0, h_l1, h_l2, h_l3⟩ := h
    refine ⟨⟨?_, ?_, ?_, ?_⟩, ?_⟩
    (intro p0_0 p0_1 p1 p0_2 v1 v2 H; rw [stats_some.l0] at H; try dsimp only at H)
    rotate_left
    (intro p0_2 p1 v3 v4 H; rw [stats_some.l1] at H; try dsimp only at H)
    rotate_left
    (intro p0_2 v3 p1 v5 v6 H; rw [stats_some.l2] at H; try dsimp only at H)
    rotate_left
    (intro p0_2 v3 v5 p1 v7 v8 H; rw [stats_some.l3] at H; try dsimp only at H)
    rotate_left
    (intro p0_0 p0_1 p0_2 p1 H; unfold stats_some.f at H; try dsimp only at H)
    rotate_left
    repeat' (first
      | ((with_reducible have hJ : stats_some.l0 _ _ _ _ _ = some _ := H); clear hJ; (with_reducible apply Runs.loop); (apply Runs.le [_] (h_l0 _ _ _ _ _ _ H)))
      | ((with_reducible have hJ : stats_some.l0 _ _ _ _ _ = some _ := H); clear hJ; (with_reducible apply Runs.inLoop); (apply Runs.le [_] (h_l0 _ _ _ _ _ _ H)))
      | ((with_reducible have hJ : stats_some.l1 _ _ _ _ _ = some _ := H); clear hJ; (with_reducible apply Runs.loop); (apply Runs.le [_] (h_l1 _ _ _ _ H)))
      | ((with_reducible have hJ : stats_some.l1 _ _ _ _ _ = some _ := H); clear hJ; (with_reducible apply Runs.inLoop); (apply Runs.le [_] (h_l1 _ _ _ _ H)))
      | ((with_reducible have hJ : stats_some.l2 _ _ _ _ _ _ = some _ := H); clear hJ; (with_reducible apply Runs.loop); (apply Runs.le [_] (h_l2 _ _ _ _ _ H)))
      | ((with_reducible have hJ : stats_some.l2 _ _ _ _ _ _ = some _ := H); clear hJ; (with_reducible apply Runs.inLoop); (apply Runs.le [_] (h_l2 _ _ _ _ _ H)))
      | ((with_reducible have hJ : stats_some.l3 _ _ _ _ _ _ _ = some _ := H); clear hJ; (with_reducible apply Runs.loop); (apply Runs.le [_] (h_l3 _ _ _ _ _ _ H)))
      | ((with_reducible have hJ : stats_some.l3 _ _ _ _ _ _ _ = some _ := H); clear hJ; (with_reducible apply Runs.inLoop); (apply Runs.le [_] (h_l3 _ _ _ _ _ _ H)))
      | ((with_reducible replace H := some_ite H); obtain ⟨_, H⟩ := H)
      | (with_reducible replace H := true_ite H)
      | (with_reducible replace H := false_ite H)
      | ((with_reducible have hb := bool_ite H); clear H; rcases hb with ⟨e_, H⟩ | ⟨e_, H⟩ <;> subst e_)
      | ((with_reducible have hb := bool_iteN H); clear H; rcases hb with ⟨e_, H⟩ | ⟨e_, H⟩ <;> subst e_)
      | ((with_reducible apply ROps.pure); (case hop => rfl); (case hw => rfl); (case hdst => rfl); (case hd => rfl))
      | (with_reducible apply ROps.nil)
      | (with_reducible apply Runs.seq)
      | (with_reducible apply Runs.region tysOK)
      | (with_reducible apply Runs.block)
      | (with_reducible apply Runs.skip)
      | (with_reducible apply Runs.inBlock)
      | (with_reducible apply Runs.scope)
      | (with_reducible apply Runs.inScope)
      | (with_reducible apply Runs.label)
      | ((with_reducible apply Runs.condT); (case ho => rfl))
      | ((with_reducible apply Runs.condF); (case ho => rfl))
      | ((with_reducible apply Runs.exit); (case he => rfl))
      | ((with_reducible apply ROps.store); (case hop => rfl); (case hp => rfl); (case hR => rfl); (case hc => rfl); (case hl => first | (dsimp only [setR_one, setR, Nat.beq, cond]; done) | (dsimp only [setR_one, setR, Nat.beq, cond]; rfl) | rfl); (case hl' => first | (dsimp only [List.take, List.drop, List.append, List.nil_append, List.cons_append, List.map, List.length, Nat.add]; rfl) | rfl); (case hw => rfl); (all_goals try rfl))
      | ((with_reducible apply ROps.cmp); (case hop => exact cmpX); (case hw => rfl); (case hdst => rfl); (case hd => rfl); (all_goals (intro h; first | (replace H := ite_pos_ h H) | (replace H := ite_neg_ h H) | (replace H := ite_pos_ (Decidable.not_not.1 h) H) | ((try simp only [rd_T56, rd_T60, rd_T65, rd_T68, rdOf] at h); (try simp only [rd_T56, rd_T60, rd_T65, rd_T68, rdOf] at H); (rw [if_pos h] at H)) | ((try simp only [rd_T56, rd_T60, rd_T65, rd_T68, rdOf] at h); (try simp only [rd_T56, rd_T60, rd_T65, rd_T68, rdOf] at H); (rw [if_neg h] at H)) | contradiction | skip)))
      | ((with_reducible apply ROps.val); (case hop => exact valX); (case hw => rfl); (case hdst => rfl); (case hd => rfl))
      | ((with_reducible apply ROps.idx); (case hop => rfl); (case hx => rfl); (case hi => rfl); (case he => rfl); (case hw => rfl); (case hdst => rfl); (case hd => rfl); (case h0 => first | assumption | omega); (case h1 => first | assumption | omega))
      | ((with_reducible apply ROps.alloc); (case hop => rfl); (case hw => rfl); (all_goals try rfl))
      | ((with_reducible apply ROps.box); (case hop => rfl); (case hx => rfl); (case hrf => rfl); (case hw => rfl); (all_goals try rfl))
      | ((with_reducible apply ROps.lit); (case hop => rfl); (case hti => rfl); (case hsz => rfl); (case hl => rfl); (case hrf => rfl); (case hw => rfl); (all_goals try rfl))
      | ((with_reducible apply ROps.app); (case hop => rfl); (case hti => rfl); (case hsz => rfl); (case hs => rfl); (case hR => rfl); (case hx => rfl); (case hb => constructor <;> ((try simp only [maxLen, List.length_nil, List.length_cons, List.length_append] at *); omega)); (case hw => rfl); (all_goals try rfl))
      | ((with_reducible apply ROps.appN); (case hop => rfl); (case hti => rfl); (case hsz => rfl); (case hs => rfl); (case hx => rfl); (case hb => constructor <;> ((try simp only [maxLen, List.length_nil, List.length_cons, List.length_append] at *); omega)); (case hw => rfl); (all_goals try rfl))
      | ((with_reducible have hB : (table_Get.f _ _ _).bind _ = some _ := H); clear hB; (replace H := bind_some' H); (obtain ⟨⟨t_0, t_1, t_2, t_3, t_4⟩, H1, H⟩ := H); (try dsimp only at H); (with_reducible apply ROps.call); (case hop => rfl); (case hc => exact table_Get.ok H1); (case ha => exact argsX); (case hw => rfl); (case hdst => rfl); (case hd => rfl))
      | ((with_reducible apply Runs.retP tysOK); (case hrs => rfl); (case h => rfl); (case hr => (cases H; exact refX)); (case hx => rfl))
      | exact leRX
      | (refine Runs.code_eq (p' := .seq _ _) rfl ?_)
      | (refine Runs.code_eq (p' := .region _ _ _) rfl ?_)
      | (refine Runs.code_eq (p' := .cond _ _ _) rfl ?_)
      | (refine Runs.code_eq (p' := .block _ _) rfl ?_)
      | (refine Runs.code_eq (p' := .loop _) rfl ?_)
      | (refine Runs.code_eq (p' := .exit _) rfl ?_)
      | (refine Runs.code_eq (p' := .ret) rfl ?_)
      | (refine Runs.code_eq (p' := .skip) rfl ?_)
      | (refine Runs.code_eq (p' := .label _) rfl ?_)
      | (refine Runs.code_eq (p' := .scope _) rfl ?_))
  refine ⟨fun k => ?_, fun k h => (hs k h).2⟩
  induction k with
  | zero => exact ⟨(by intro _ _ _ _ _ _ H; rw [stats_some.l0] at H; cases H), (by intro _ _ _ _ H; rw [stats_some.l1] at H; cases H), (by intro _ _ _ _ _ H; rw [stats_some.l2] at H; cases H), (by intro _ _ _ _ _ _ H; rw [stats_some.l3] at H; cases H)⟩
  | succ k ih => exact (hs k ih).1
theorem stats_some.ok {k : Nat} {p0_0 : Int} {p0_1 : Int} {p0_2 : List (S56)} {p1 : List (S68)} {r0 : List (Int)} (H : stats_some.f k p0_0 p0_1 p0_2 p1 = some r0) : CallOK Try.prog glo 42 [.agg [.imm (.int .i64 p0_0), .imm (.int .i64 p0_1), vS56 p0_2], vS68 p1] (vI .i64 r0) :=
  CallOK.of (c := stats_some.cx) (p := bodyOf Try.f42) Try.func42 rfl rfl rfl (Nat.le_of_ble_eq_true rfl) rfl ((stats_some.seg r0).2 k ((stats_some.seg r0).1 k) p0_0 p0_1 p0_2 p1 H)
end Go.Proofs.Ytopbcamlagdieaa.PStats
set_option linter.unusedVariables false
set_option linter.unusedSimpArgs false
namespace Go.Proofs.Ytopbcamlagdieaa.PStats
open Go.RowKit Go.Proofs.YtopbcamlagdieaaW.PrintWords Go.Proofs.YtopbcamlagdieaaW.PrintLast Go.Proofs.YtopbcamlagdieaaW.PrintMore Go.Proofs.Ytopbcamlagdieaa.Abs
/-! ### stats_in: function 43 -/
def stats_in.l0 : Nat → Int → List (S76) → Int → Int → Option (Bool)
  | 0, _, _, _, _ => none
  | k + 1, x1, x8, x9, x10 => if x10 < x9 then (if 0 ≤ x10 then (if x10 < (x8.length : Int) then (if x1 ≥ ((rd_T76 x8 x10).f0) then (if x1 ≤ ((rd_T76 x8 x10).f1) then (some true) else (stats_in.l0 k x1 x8 x9 (wrap64 (x10 + 1)))) else (stats_in.l0 k x1 x8 x9 (wrap64 (x10 + 1)))) else (none)) else (none)) else (some false)
def stats_in.f (k : Nat) (a0_0 : Int) (a0_1 : Int) (l0_2 : List (S76)) (l0_3 : List (S65)) (a0_4 : Int) (a0_5 : Int) (a0_6 : Int) (a1 : Int) : Option (Bool) := stats_in.l0 k a1 l0_2 (l0_2.length : Int) 0
noncomputable def stats_in.cx : Cx := ⟨Try.prog, tys, glo, 25, Try.f43, [.tmp 4], 0⟩
set_option maxHeartbeats 16000000 in
set_option maxRecDepth 100000 in
theorem stats_in.ok {k : Nat} {a0_0 : Int} {a0_1 : Int} {l0_2 : List (S76)} {l0_3 : List (S65)} {a0_4 : Int} {a0_5 : Int} {a0_6 : Int} {a1 : Int} {r0 : Bool} (H : stats_in.f k a0_0 a0_1 l0_2 l0_3 a0_4 a0_5 a0_6 a1 = some r0) : CallOK Try.prog glo 43 [.agg [.imm (.int .i64 a0_0), .imm (.int .i64 a0_1), vS76 l0_2, vS65 l0_3, .imm (.int .i64 a0_4), .imm (.int .i64 a0_5), .imm (.int .i64 a0_6)], .imm (.int .i64 a1)] (.imm (.bool r0)) := by
  unfold stats_in.f at H
  refine CallOK.of (c := stats_in.cx) Try.func43 (show (stats_in.cx).fn.body = some _ from rfl) rfl rfl (Nat.le_of_ble_eq_true rfl) rfl ?_
  repeat' (first
    | ((with_reducible replace H := some_ite H); obtain ⟨_, H⟩ := H)
    | (with_reducible replace H := true_ite H)
    | (with_reducible replace H := false_ite H)
    | ((with_reducible have hb := bool_ite H); clear H; rcases hb with ⟨e_, H⟩ | ⟨e_, H⟩ <;> subst e_)
    | ((with_reducible apply ROps.pure); (case hop => rfl); (case hw => rfl); (case hdst => rfl); (case hd => rfl))
    | (with_reducible apply ROps.nil)
    | (with_reducible apply Runs.seq)
    | (with_reducible apply Runs.region tysOK)
    | (with_reducible apply Runs.block)
    | (with_reducible apply Runs.skip)
    | (with_reducible apply Runs.inBlock)
    | (with_reducible apply Runs.scope)
    | (with_reducible apply Runs.inScope)
    | (with_reducible apply Runs.label)
    | ((with_reducible apply Runs.condT); (case ho => rfl))
    | ((with_reducible apply Runs.condF); (case ho => rfl))
    | ((with_reducible apply Runs.exit); (case he => rfl))
    | ((with_reducible apply ROps.store); (case hop => rfl); (case hp => rfl); (case hR => rfl); (case hc => rfl); (case hl => first | (dsimp only [setR_one, setR, Nat.beq, cond]; done) | (dsimp only [setR_one, setR, Nat.beq, cond]; rfl) | rfl); (case hl' => first | (dsimp only [List.take, List.drop, List.append, List.nil_append, List.cons_append, List.map, List.length, Nat.add]; rfl) | rfl); (case hw => rfl); (all_goals try rfl))
    | ((with_reducible apply ROps.cmp); (case hop => exact cmpX); (case hw => rfl); (case hdst => rfl); (case hd => rfl); (all_goals (intro h; first | (replace H := ite_pos_ h H) | (replace H := ite_neg_ h H) | (replace H := dec_pos h H) | (replace H := dec_neg h H) | (replace H := dec_t h H) | (replace H := dec_f h H) | (replace H := ite_pos_ (Decidable.not_not.1 h) H) | ((try simp only [rd_T76, rdOf] at h); (try simp only [rd_T76, rdOf] at H); (rw [decide_eq_true h] at H)) | ((try simp only [rd_T76, rdOf] at h); (try simp only [rd_T76, rdOf] at H); (rw [decide_eq_false h] at H)) | ((try simp only [rd_T76, rdOf] at h); (try simp only [rd_T76, rdOf] at H); (rw [if_pos h] at H)) | ((try simp only [rd_T76, rdOf] at h); (try simp only [rd_T76, rdOf] at H); (rw [if_neg h] at H)) | contradiction | skip)))
    | ((with_reducible apply ROps.val); (case hop => exact valX); (case hw => rfl); (case hdst => rfl); (case hd => rfl))
    | ((with_reducible apply ROps.idx); (case hop => rfl); (case hx => rfl); (case hi => rfl); (case he => rfl); (case hw => rfl); (case hdst => rfl); (case hd => rfl); (case h0 => first | assumption | omega); (case h1 => first | assumption | omega))
    | ((with_reducible apply ROps.alloc); (case hop => rfl); (case hw => rfl); (all_goals try rfl))
    | ((with_reducible apply ROps.box); (case hop => rfl); (case hx => rfl); (case hrf => rfl); (case hw => rfl); (all_goals try rfl))
    | ((with_reducible apply ROps.off); (case hw => rfl); (case hdst => rfl); (case hd => rfl))
    | ((with_reducible apply Runs.loopK1 ((fun i0 i1 i2 => fun kk (v0_10 : Int) => stats_in.l0 kk i0 i1 i2 v0_10) _ _ _) [1, 8, 9] [] (fun b v0_10 => [(10, .imm (.int .i64 v0_10))]) (fun v0_10 => []) _ _ [] H); (case h0 => intros; rfl); (any_goals (clear H; intro k0 hk0 ih0 v0_10 H; replace H : stats_in.l0 (k0 + 1) _ _ _ v0_10 = some _ := H; rw [stats_in.l0] at H)))
    | (with_reducible apply ih0 _ _ [] _ _ (by omega) H)
    | ((with_reducible apply Runs.retP tysOK); (case hrs => rfl); (case h => rfl); (case hr => (cases H; exact refX)); (case hx => rfl))
    | exact leRX)
end Go.Proofs.Ytopbcamlagdieaa.PStats
set_option linter.unusedVariables false
set_option linter.unusedSimpArgs false
namespace Go.Proofs.Ytopbcamlagdieaa.PStats
open Go.RowKit Go.Proofs.YtopbcamlagdieaaW.PrintWords Go.Proofs.YtopbcamlagdieaaW.PrintLast Go.Proofs.YtopbcamlagdieaaW.PrintMore Go.Proofs.Ytopbcamlagdieaa.Abs
/-! ### conf_right: function 49 -/
def conf_right.f (k : Nat) (a0_0 : Int) (a0_1 : Int) (l0_2 : List (S56)) : Option ((List (S86))) := (conf_Check.f k a0_0 a0_1 l0_2).bind fun t248 => (if t248 = 0 then ((conf_spots.f k a0_0 a0_1 l0_2).bind fun t249 => (some t249)) else (some ([] : List (S86))))
noncomputable def conf_right.cx : Cx := ⟨Try.prog, tys, glo, 8, Try.f49, [.tmp 2], 0⟩
set_option maxHeartbeats 16000000 in
set_option maxRecDepth 100000 in
theorem conf_right.ok {k : Nat} {a0_0 : Int} {a0_1 : Int} {l0_2 : List (S56)} {r0 : List (S86)} (H : conf_right.f k a0_0 a0_1 l0_2 = some r0) : CallOK Try.prog glo 49 [.agg [.imm (.int .i64 a0_0), .imm (.int .i64 a0_1), vS56 l0_2]] (vS86 r0) := by
  unfold conf_right.f at H
  refine CallOK.of (c := conf_right.cx) Try.func49 (show (conf_right.cx).fn.body = some _ from rfl) rfl rfl (Nat.le_of_ble_eq_true rfl) rfl ?_
  repeat' (first
    | ((with_reducible replace H := some_ite H); obtain ⟨_, H⟩ := H)
    | (with_reducible replace H := true_ite H)
    | (with_reducible replace H := false_ite H)
    | ((with_reducible have hb := bool_ite H); clear H; rcases hb with ⟨e_, H⟩ | ⟨e_, H⟩ <;> subst e_)
    | ((with_reducible apply ROps.pure); (case hop => rfl); (case hw => rfl); (case hdst => rfl); (case hd => rfl))
    | (with_reducible apply ROps.nil)
    | (with_reducible apply Runs.seq)
    | (with_reducible apply Runs.region tysOK)
    | (with_reducible apply Runs.skip)
    | (with_reducible apply Runs.scope)
    | (with_reducible apply Runs.inScope)
    | (with_reducible apply Runs.label)
    | ((with_reducible apply Runs.condT); (case ho => rfl))
    | ((with_reducible apply Runs.condF); (case ho => rfl))
    | ((with_reducible apply ROps.cmp); (case hop => exact cmpX); (case hw => rfl); (case hdst => rfl); (case hd => rfl); (all_goals (intro h; first | (replace H := ite_pos_ h H) | (replace H := ite_neg_ h H) | (replace H := beq_pos h H) | (replace H := beq_neg h H) | (replace H := beq_tt h H) | (replace H := beq_ff h H) | (replace H := ite_pos_ (Decidable.not_not.1 h) H) | (replace H := beq_pos (Decidable.not_not.1 h) H) | (replace H := beq_tt (Decidable.not_not.1 h) H) | ((try simp only [rdOf] at h); (try simp only [rdOf] at H); (rw [beq_t h] at H)) | ((try simp only [rdOf] at h); (try simp only [rdOf] at H); (rw [beq_f h] at H)) | ((try simp only [rdOf] at h); (try simp only [rdOf] at H); (rw [bne_t h] at H)) | ((try simp only [rdOf] at h); (try simp only [rdOf] at H); (rw [bne_f h] at H)) | ((try simp only [rdOf] at h); (try simp only [rdOf] at H); (rw [beq_t (Decidable.not_not.1 h)] at H)) | ((try simp only [rdOf] at h); (try simp only [rdOf] at H); (rw [bne_f (Decidable.not_not.1 h)] at H)) | ((try simp only [rdOf] at h); (try simp only [rdOf] at H); (rw [if_pos h] at H)) | ((try simp only [rdOf] at h); (try simp only [rdOf] at H); (rw [if_neg h] at H)) | contradiction | skip)))
    | ((with_reducible apply ROps.val); (case hop => exact valX); (case hw => rfl); (case hdst => rfl); (case hd => rfl))
    | ((first | (with_reducible apply ROps.eqS; case hop => rfl) | (with_reducible apply ROps.neS; case hop => rfl)); (case ht => rfl); (case hx => rfl); (case hy => rfl); (case hl => rfl); (case hr => rfl); (case hw => rfl); (case hdst => rfl); (case hd => rfl); (all_goals (intro h; first | (replace H := ite_posF H h) | (replace H := ite_negF H h) | (dsimp only [eqP, eqA] at h) | skip)))
    | ((with_reducible apply ROps.box); (case hop => rfl); (case hx => rfl); (case hrf => rfl); (case hw => rfl); (all_goals try rfl))
    | ((with_reducible have hB : (conf_Check.f _ _ _ _).bind _ = some _ := H); clear hB; (replace H := bind_some' H); (obtain ⟨t_, H1, H⟩ := H); (try dsimp only at H); (with_reducible apply ROps.call); (case hop => rfl); (case hc => exact conf_Check.ok H1); (case ha => exact argsX); (case hw => rfl); (case hdst => rfl); (case hd => rfl))
    | ((with_reducible have hB : (conf_spots.f _ _ _ _).bind _ = some _ := H); clear hB; (replace H := bind_some' H); (obtain ⟨t_, H1, H⟩ := H); (try dsimp only at H); (with_reducible apply ROps.call); (case hop => rfl); (case hc => exact conf_spots.ok H1); (case ha => exact argsX); (case hw => rfl); (case hdst => rfl); (case hd => rfl))
    | ((with_reducible apply Runs.retP tysOK); (case hrs => rfl); (case h => rfl); (case hr => (cases H; exact refX)); (case hx => rfl))
    | exact leRX)
end Go.Proofs.Ytopbcamlagdieaa.PStats
set_option linter.unusedVariables false
set_option linter.unusedSimpArgs false
namespace Go.Proofs.Ytopbcamlagdieaa.PStats
open Go.RowKit Go.Proofs.YtopbcamlagdieaaW.PrintWords Go.Proofs.YtopbcamlagdieaaW.PrintLast Go.Proofs.YtopbcamlagdieaaW.PrintMore Go.Proofs.Ytopbcamlagdieaa.Abs
/-! ### conf_Keeper: function 28 -/
mutual
def conf_Keeper.l0 : Nat → Int → List (S86) → Int → Int → Option (ByteArray × Bool)
  | 0, _, _, _, _ => none
  | k + 1, x1, x11, x12, x13 => if x13 < x12 then (if 0 ≤ x13 then (if x13 < (x11.length : Int) then (conf_Keeper.l1 k x1 x11 x12 x13 ((rd_T86 x11 x13).f2.f3) (((rd_T86 x11 x13).f2.f3).length : Int) 0) else (none)) else (none)) else (some ((⟨#[]⟩ : ByteArray), false))
def conf_Keeper.l1 : Nat → Int → List (S86) → Int → Int → List (S65) → Int → Int → Option (ByteArray × Bool)
  | 0, _, _, _, _, _, _, _ => none
  | k + 1, x1, x11, x12, x13, x19, x20, x21 => if x21 < x20 then (if 0 ≤ x21 then (if x21 < (x19.length : Int) then (if ((rd_T65 x19 x21).f1) = x1 then (some ((rd_T65 x19 x21).f0, true)) else (conf_Keeper.l1 k x1 x11 x12 x13 x19 x20 (wrap64 (x21 + 1)))) else (none)) else (none)) else (conf_Keeper.l0 k x1 x11 x12 (wrap64 (x13 + 1)))
end
def conf_Keeper.f (k : Nat) (a0_0 : Int) (a0_1 : Int) (l0_2 : List (S56)) (a1 : Int) : Option (ByteArray × Bool) := (conf_right.f k a0_0 a0_1 l0_2).bind fun t253 => (conf_Keeper.l0 k a1 t253 (t253.length : Int) 0)
noncomputable def conf_Keeper.cx : Cx := ⟨Try.prog, tys, glo, 33, Try.f28, [.tmp 4, .tmp 5], 0⟩
set_option maxHeartbeats 16000000 in
set_option maxRecDepth 100000 in
theorem conf_Keeper.ok {k : Nat} {a0_0 : Int} {a0_1 : Int} {l0_2 : List (S56)} {a1 : Int} {r0 : ByteArray} {r1 : Bool} (H : conf_Keeper.f k a0_0 a0_1 l0_2 a1 = some (r0, r1)) : CallOK Try.prog glo 28 [.agg [.imm (.int .i64 a0_0), .imm (.int .i64 a0_1), vS56 l0_2], .imm (.int .i64 a1)] (.tup [.imm (.string r0), .imm (.bool r1)]) := by
  unfold conf_Keeper.f at H
  refine CallOK.of (c := conf_Keeper.cx) Try.func28 (show (conf_Keeper.cx).fn.body = some _ from rfl) rfl rfl (Nat.le_of_ble_eq_true rfl) rfl ?_
  repeat' (first
    | ((with_reducible replace H := some_ite H); obtain ⟨_, H⟩ := H)
    | (with_reducible replace H := true_ite H)
    | (with_reducible replace H := false_ite H)
    | ((with_reducible have hb := bool_ite H); clear H; rcases hb with ⟨e_, H⟩ | ⟨e_, H⟩ <;> subst e_)
    | ((with_reducible apply ROps.pure); (case hop => rfl); (case hw => rfl); (case hdst => rfl); (case hd => rfl))
    | (with_reducible apply ROps.nil)
    | (with_reducible apply Runs.seq)
    | (with_reducible apply Runs.region tysOK)
    | (with_reducible apply Runs.block)
    | (with_reducible apply Runs.skip)
    | (with_reducible apply Runs.inBlock)
    | (with_reducible apply Runs.scope)
    | (with_reducible apply Runs.inScope)
    | (with_reducible apply Runs.label)
    | ((with_reducible apply Runs.condT); (case ho => rfl))
    | ((with_reducible apply Runs.condF); (case ho => rfl))
    | ((with_reducible apply Runs.exit); (case he => rfl))
    | ((with_reducible apply ROps.store); (case hop => rfl); (case hp => rfl); (case hR => rfl); (case hc => rfl); (case hl => first | (dsimp only [setR_one, setR, Nat.beq, cond]; done) | (dsimp only [setR_one, setR, Nat.beq, cond]; rfl) | rfl); (case hl' => first | (dsimp only [List.take, List.drop, List.append, List.nil_append, List.cons_append, List.map, List.length, Nat.add]; rfl) | rfl); (case hw => rfl); (all_goals try rfl))
    | ((with_reducible apply ROps.cmp); (case hop => exact cmpX); (case hw => rfl); (case hdst => rfl); (case hd => rfl); (all_goals (intro h; first | (replace H := ite_pos_ h H) | (replace H := ite_neg_ h H) | (replace H := dec_pos h H) | (replace H := dec_neg h H) | (replace H := dec_t h H) | (replace H := dec_f h H) | (replace H := beq_pos h H) | (replace H := beq_neg h H) | (replace H := beq_tt h H) | (replace H := beq_ff h H) | (replace H := ite_pos_ (Decidable.not_not.1 h) H) | (replace H := beq_pos (Decidable.not_not.1 h) H) | (replace H := beq_tt (Decidable.not_not.1 h) H) | ((try simp only [rd_T65, rd_T86, rdOf] at h); (try simp only [rd_T65, rd_T86, rdOf] at H); (rw [decide_eq_true h] at H)) | ((try simp only [rd_T65, rd_T86, rdOf] at h); (try simp only [rd_T65, rd_T86, rdOf] at H); (rw [decide_eq_false h] at H)) | ((try simp only [rd_T65, rd_T86, rdOf] at h); (try simp only [rd_T65, rd_T86, rdOf] at H); (rw [beq_t h] at H)) | ((try simp only [rd_T65, rd_T86, rdOf] at h); (try simp only [rd_T65, rd_T86, rdOf] at H); (rw [beq_f h] at H)) | ((try simp only [rd_T65, rd_T86, rdOf] at h); (try simp only [rd_T65, rd_T86, rdOf] at H); (rw [bne_t h] at H)) | ((try simp only [rd_T65, rd_T86, rdOf] at h); (try simp only [rd_T65, rd_T86, rdOf] at H); (rw [bne_f h] at H)) | ((try simp only [rd_T65, rd_T86, rdOf] at h); (try simp only [rd_T65, rd_T86, rdOf] at H); (rw [beq_t (Decidable.not_not.1 h)] at H)) | ((try simp only [rd_T65, rd_T86, rdOf] at h); (try simp only [rd_T65, rd_T86, rdOf] at H); (rw [bne_f (Decidable.not_not.1 h)] at H)) | ((try simp only [rd_T65, rd_T86, rdOf] at h); (try simp only [rd_T65, rd_T86, rdOf] at H); (rw [if_pos h] at H)) | ((try simp only [rd_T65, rd_T86, rdOf] at h); (try simp only [rd_T65, rd_T86, rdOf] at H); (rw [if_neg h] at H)) | contradiction | skip)))
    | ((with_reducible apply ROps.val); (case hop => exact valX); (case hw => rfl); (case hdst => rfl); (case hd => rfl))
    | ((first | (with_reducible apply ROps.eqS; case hop => rfl) | (with_reducible apply ROps.neS; case hop => rfl)); (case ht => rfl); (case hx => rfl); (case hy => rfl); (case hl => rfl); (case hr => rfl); (case hw => rfl); (case hdst => rfl); (case hd => rfl); (all_goals (intro h; first | (replace H := ite_posF H h) | (replace H := ite_negF H h) | (dsimp only [eqP, eqA] at h) | skip)))
    | ((with_reducible apply ROps.idx); (case hop => rfl); (case hx => rfl); (case hi => rfl); (case he => rfl); (case hw => rfl); (case hdst => rfl); (case hd => rfl); (case h0 => first | assumption | omega); (case h1 => first | assumption | omega))
    | ((with_reducible apply ROps.alloc); (case hop => rfl); (case hw => rfl); (all_goals try rfl))
    | ((with_reducible apply ROps.box); (case hop => rfl); (case hx => rfl); (case hrf => rfl); (case hw => rfl); (all_goals try rfl))
    | ((with_reducible have hB : (conf_right.f _ _ _ _).bind _ = some _ := H); clear hB; (replace H := bind_some' H); (obtain ⟨t_, H1, H⟩ := H); (try dsimp only at H); (with_reducible apply ROps.call); (case hop => rfl); (case hc => exact conf_right.ok H1); (case ha => exact argsX); (case hw => rfl); (case hdst => rfl); (case hd => rfl))
    | ((with_reducible apply Runs.loopK1 ((fun i0 i1 i2 => fun kk (v0_13 : Int) => conf_Keeper.l0 kk i0 i1 i2 v0_13) _ _ _) [1, 11, 12] [] (fun b v0_13 => [(13, .imm (.int .i64 v0_13))]) (fun v0_13 => []) _ _ [] H); (case h0 => intros; rfl); (any_goals (clear H; intro k0 hk0 ih0 v0_13 H; replace H : conf_Keeper.l0 (k0 + 1) _ _ _ v0_13 = some _ := H; rw [conf_Keeper.l0] at H)))
    | (with_reducible apply ih0 _ _ [] _ _ (by omega) H)
    | ((with_reducible apply Runs.loopK1 ((fun i0 i1 i2 i3 i4 i5 => fun kk (v1_21 : Int) => conf_Keeper.l1 kk i0 i1 i2 i3 i4 i5 v1_21) _ _ _ _ _ _) [1, 11, 12, 13, 19, 20] [] (fun b v1_21 => [(21, .imm (.int .i64 v1_21))]) (fun v1_21 => []) _ _ [] H); (case h0 => intros; rfl); (any_goals (clear H; intro k1 hk1 ih1 v1_21 H; replace H : conf_Keeper.l1 (k1 + 1) _ _ _ _ _ _ v1_21 = some _ := H; rw [conf_Keeper.l1] at H)))
    | (with_reducible apply ih1 _ _ [] _ _ (by omega) H)
    | ((with_reducible apply Runs.retP tysOK); (case hrs => rfl); (case h => rfl); (case hr => (cases H; exact refX)); (case hx => rfl))
    | exact leRX)
end Go.Proofs.Ytopbcamlagdieaa.PStats
set_option linter.unusedVariables false
set_option linter.unusedSimpArgs false
namespace Go.Proofs.Ytopbcamlagdieaa.PStats
open Go.RowKit Go.Proofs.YtopbcamlagdieaaW.PrintWords Go.Proofs.YtopbcamlagdieaaW.PrintLast Go.Proofs.YtopbcamlagdieaaW.PrintMore Go.Proofs.Ytopbcamlagdieaa.Abs
/-! ### stats_counts: function 29 -/
def stats_counts.f (a0_0 : Int) (a0_1 : Int) (a0_2 : Int) (a0_3 : ByteArray) (a1 : Int) : Option (Bool) := (table_Holds.f a0_0 a0_1 a0_2 a0_3 a1).bind fun t261 => (if t261 = true then (some true) else ((table_Rests.f a0_0 a0_1 a0_2 a0_3 a1).bind fun t262 => (some t262)))
noncomputable def stats_counts.cx : Cx := ⟨Try.prog, tys, glo, 13, Try.f29, [.tmp 4], 0⟩
set_option maxHeartbeats 16000000 in
set_option maxRecDepth 100000 in
theorem stats_counts.ok {a0_0 : Int} {a0_1 : Int} {a0_2 : Int} {a0_3 : ByteArray} {a1 : Int} {r0 : Bool} (H : stats_counts.f a0_0 a0_1 a0_2 a0_3 a1 = some r0) : CallOK Try.prog glo 29 [.agg [.imm (.int .i64 a0_0), .imm (.int .i64 a0_1), .imm (.int .i64 a0_2), .imm (.string a0_3)], .imm (.int .i64 a1)] (.imm (.bool r0)) := by
  unfold stats_counts.f at H
  refine CallOK.of (c := stats_counts.cx) Try.func29 (show (stats_counts.cx).fn.body = some _ from rfl) rfl rfl (Nat.le_of_ble_eq_true rfl) rfl ?_
  repeat' (first
    | ((with_reducible replace H := some_ite H); obtain ⟨_, H⟩ := H)
    | (with_reducible replace H := some_bind_ H)
    | (with_reducible replace H := true_ite H)
    | (with_reducible replace H := false_ite H)
    | ((with_reducible have hb := bool_ite H); clear H; rcases hb with ⟨e_, H⟩ | ⟨e_, H⟩ <;> subst e_)
    | ((with_reducible apply ROps.pure); (case hop => rfl); (case hw => rfl); (case hdst => rfl); (case hd => rfl))
    | (with_reducible apply ROps.nil)
    | (with_reducible apply Runs.seq)
    | (with_reducible apply Runs.region tysOK)
    | (with_reducible apply Runs.scope)
    | (with_reducible apply Runs.inScope)
    | (with_reducible apply Runs.label)
    | ((with_reducible apply ROps.box); (case hop => rfl); (case hx => rfl); (case hrf => rfl); (case hw => rfl); (all_goals try rfl))
    | ((with_reducible apply ROps.off); (case hw => rfl); (case hdst => rfl); (case hd => rfl))
    | ((with_reducible have hB : (table_Holds.f _ _ _ _ _).bind _ = some _ := H); clear hB; (replace H := bind_some' H); (obtain ⟨t_, H1, H⟩ := H); (try dsimp only at H); (with_reducible apply ROps.call); (case hop => rfl); (case hc => exact table_Holds.ok H1); (case ha => exact argsX); (case hw => rfl); (case hdst => rfl); (case hd => rfl))
    | ((with_reducible have hB : (table_Rests.f _ _ _ _ _).bind _ = some _ := H); clear hB; (replace H := bind_some' H); (obtain ⟨t_, H1, H⟩ := H); (try dsimp only at H); (with_reducible apply ROps.call); (case hop => rfl); (case hc => exact table_Rests.ok H1); (case ha => exact argsX); (case hw => rfl); (case hdst => rfl); (case hd => rfl))
    | ((with_reducible apply Runs.retP tysOK); (case hrs => rfl); (case h => rfl); (case hr => (cases H; exact refX)); (case hx => rfl))
    | exact leRX)
end Go.Proofs.Ytopbcamlagdieaa.PStats
set_option linter.unusedVariables false
set_option linter.unusedSimpArgs false
namespace Go.Proofs.Ytopbcamlagdieaa.PStats
open Go.RowKit Go.Proofs.YtopbcamlagdieaaW.PrintWords Go.Proofs.YtopbcamlagdieaaW.PrintLast Go.Proofs.YtopbcamlagdieaaW.PrintMore Go.Proofs.Ytopbcamlagdieaa.Abs
/-! ### stats_busy: function 44 -/
def stats_busy.f (k : Nat) (a0_0 : Int) (a0_1 : Int) (l0_2 : List (S56)) (l1 : List (S68)) (a2 : Int) (a3 : Int) : Option (Bool) := (conf_Keeper.f k a0_0 a0_1 l0_2 a2).bind fun bt264 => ((table_Get.f k l1 a2).bind fun bt266 => (if bt264.2 = true then (some true) else ((stats_counts.f bt266.1 bt266.2.1 bt266.2.2.1 bt266.2.2.2.1 a3).bind fun t272 => (some t272))))
noncomputable def stats_busy.cx : Cx := ⟨Try.prog, tys, glo, 31, Try.f44, [.tmp 8], 0⟩
set_option maxHeartbeats 16000000 in
set_option maxRecDepth 100000 in
theorem stats_busy.ok {k : Nat} {a0_0 : Int} {a0_1 : Int} {l0_2 : List (S56)} {l1 : List (S68)} {a2 : Int} {a3 : Int} {r0 : Bool} (H : stats_busy.f k a0_0 a0_1 l0_2 l1 a2 a3 = some r0) : CallOK Try.prog glo 44 [.agg [.imm (.int .i64 a0_0), .imm (.int .i64 a0_1), vS56 l0_2], vS68 l1, .imm (.int .i64 a2), .imm (.int .i64 a3)] (.imm (.bool r0)) := by
  unfold stats_busy.f at H
  refine CallOK.of (c := stats_busy.cx) Try.func44 (show (stats_busy.cx).fn.body = some _ from rfl) rfl rfl (Nat.le_of_ble_eq_true rfl) rfl ?_
  repeat' (first
    | ((with_reducible replace H := some_ite H); obtain ⟨_, H⟩ := H)
    | (with_reducible replace H := some_bind_ H)
    | (with_reducible replace H := true_ite H)
    | (with_reducible replace H := false_ite H)
    | ((with_reducible have hb := bool_ite H); clear H; rcases hb with ⟨e_, H⟩ | ⟨e_, H⟩ <;> subst e_)
    | ((with_reducible apply ROps.pure); (case hop => rfl); (case hw => rfl); (case hdst => rfl); (case hd => rfl))
    | (with_reducible apply ROps.nil)
    | (with_reducible apply Runs.seq)
    | (with_reducible apply Runs.region tysOK)
    | (with_reducible apply Runs.scope)
    | (with_reducible apply Runs.inScope)
    | (with_reducible apply Runs.label)
    | ((with_reducible apply ROps.store); (case hop => rfl); (case hp => rfl); (case hR => rfl); (case hc => rfl); (case hl => first | (dsimp only [setR_one, setR, Nat.beq, cond]; done) | (dsimp only [setR_one, setR, Nat.beq, cond]; rfl) | rfl); (case hl' => first | (dsimp only [List.take, List.drop, List.append, List.nil_append, List.cons_append, List.map, List.length, Nat.add]; rfl) | rfl); (case hw => rfl); (all_goals try rfl))
    | ((with_reducible apply ROps.alloc); (case hop => rfl); (case hw => rfl); (all_goals try rfl))
    | ((with_reducible apply ROps.box); (case hop => rfl); (case hx => rfl); (case hrf => rfl); (case hw => rfl); (all_goals try rfl))
    | ((with_reducible apply ROps.off); (case hw => rfl); (case hdst => rfl); (case hd => rfl))
    | ((with_reducible have hB : (conf_Keeper.f _ _ _ _ _).bind _ = some _ := H); clear hB; (replace H := bind_some' H); (obtain ⟨⟨t_0, t_1⟩, H1, H⟩ := H); (try dsimp only at H); (with_reducible apply ROps.call); (case hop => rfl); (case hc => exact conf_Keeper.ok H1); (case ha => exact argsX); (case hw => rfl); (case hdst => rfl); (case hd => rfl))
    | ((with_reducible have hB : (stats_counts.f _ _ _ _ _).bind _ = some _ := H); clear hB; (replace H := bind_some' H); (obtain ⟨t_, H1, H⟩ := H); (try dsimp only at H); (with_reducible apply ROps.call); (case hop => rfl); (case hc => exact stats_counts.ok H1); (case ha => exact argsX); (case hw => rfl); (case hdst => rfl); (case hd => rfl))
    | ((with_reducible have hB : (table_Get.f _ _ _).bind _ = some _ := H); clear hB; (replace H := bind_some' H); (obtain ⟨⟨t_0, t_1, t_2, t_3, t_4⟩, H1, H⟩ := H); (try dsimp only at H); (with_reducible apply ROps.call); (case hop => rfl); (case hc => exact table_Get.ok H1); (case ha => exact argsX); (case hw => rfl); (case hdst => rfl); (case hd => rfl))
    | ((with_reducible apply Runs.retP tysOK); (case hrs => rfl); (case h => rfl); (case hr => (cases H; exact refX)); (case hx => rfl))
    | exact leRX)
end Go.Proofs.Ytopbcamlagdieaa.PStats
set_option linter.unusedVariables false
set_option linter.unusedSimpArgs false
namespace Go.Proofs.Ytopbcamlagdieaa.PStats
open Go.RowKit Go.Proofs.YtopbcamlagdieaaW.PrintWords Go.Proofs.YtopbcamlagdieaaW.PrintLast Go.Proofs.YtopbcamlagdieaaW.PrintMore Go.Proofs.Ytopbcamlagdieaa.Abs
/-! ### stats_subnet: function 23 -/
mutual
def stats_subnet.l0 : Nat → List (S76) → List (S68) → Int → Int → Int → Int → Int → List (S56) → List (S65) → Int → Int → Int → Int → Int → Option (Int × Int × Int × Int × Int × Int × Int)
  | 0, _, _, _, _, _, _, _, _, _, _, _, _, _, _ => none
  | k + 1, p2_2, p1, p2_0, p2_1, p3, p0_0, p0_1, p0_2, p2_3, p2_4, p2_5, p2_6, v1, v2 => (if v1 < (p2_2.length : Int) then (if 0 ≤ v1 then ((stats_add.f k ([(rd_T76 p2_2 v1).f1, (wrap64 (0 - (rd_T76 p2_2 v1).f0)), 1] : List (Int)) 0 0 v2 0 0 0 0).bind fun t14 => (stats_subnet.l0 k p2_2 p1 p2_0 p2_1 p3 p0_0 p0_1 p0_2 p2_3 p2_4 p2_5 p2_6 (wrap64 (v1 + 1)) t14)) else none) else (stats_subnet.l1 k p1 p2_0 p2_1 p3 p0_0 p0_1 p0_2 v2 p2_2 p2_3 p2_4 p2_5 p2_6 0 0 0))
def stats_subnet.l1 : Nat → List (S68) → Int → Int → Int → Int → Int → List (S56) → Int → List (S76) → List (S65) → Int → Int → Int → Int → Int → Int → Option (Int × Int × Int × Int × Int × Int × Int)
  | 0, _, _, _, _, _, _, _, _, _, _, _, _, _, _, _, _ => none
  | k + 1, p1, p2_0, p2_1, p3, p0_0, p0_1, p0_2, v2, p2_2, p2_3, p2_4, p2_5, p2_6, v3, v4, v5 => (if v3 < (p1.length : Int) then (if 0 ≤ v3 then ((addr_Has.f p2_0 p2_1 ((rd_T68 p1 v3).f0)).bind fun t11 => (if (!t11) = true then (stats_subnet.l1 k p1 p2_0 p2_1 p3 p0_0 p0_1 p0_2 v2 p2_2 p2_3 p2_4 p2_5 p2_6 (wrap64 (v3 + 1)) v4 v5) else ((table_Holds.f ((rd_T68 p1 v3).f0) ((rd_T68 p1 v3).f1) ((rd_T68 p1 v3).f2) ((rd_T68 p1 v3).f3) p3).bind fun t12 => (if t12 = true then (stats_subnet.l1 k p1 p2_0 p2_1 p3 p0_0 p0_1 p0_2 v2 p2_2 p2_3 p2_4 p2_5 p2_6 (wrap64 (v3 + 1)) (wrap64 (v4 + 1)) v5) else ((table_Rests.f ((rd_T68 p1 v3).f0) ((rd_T68 p1 v3).f1) ((rd_T68 p1 v3).f2) ((rd_T68 p1 v3).f3) p3).bind fun t13 => (if t13 = true then (stats_subnet.l1 k p1 p2_0 p2_1 p3 p0_0 p0_1 p0_2 v2 p2_2 p2_3 p2_4 p2_5 p2_6 (wrap64 (v3 + 1)) v4 (wrap64 (v5 + 1))) else (stats_subnet.l1 k p1 p2_0 p2_1 p3 p0_0 p0_1 p0_2 v2 p2_2 p2_3 p2_4 p2_5 p2_6 (wrap64 (v3 + 1)) v4 v5))))))) else none) else ((stats_some.f k p0_0 p0_1 p0_2 p1).bind fun t6 => (stats_subnet.l2 k t6 p2_0 p2_1 p2_2 p2_3 p2_4 p2_5 p2_6 p0_0 p0_1 p0_2 p1 p3 v2 v4 v5 0 v2)))
def stats_subnet.l2 : Nat → List (Int) → Int → Int → List (S76) → List (S65) → Int → Int → Int → Int → Int → List (S56) → List (S68) → Int → Int → Int → Int → Int → Int → Option (Int × Int × Int × Int × Int × Int × Int)
  | 0, _, _, _, _, _, _, _, _, _, _, _, _, _, _, _, _, _, _ => none
  | k + 1, t6, p2_0, p2_1, p2_2, p2_3, p2_4, p2_5, p2_6, p0_0, p0_1, p0_2, p1, p3, v2, v4, v5, v7, v8 => (if v7 < (t6.length : Int) then (if 0 ≤ v7 then ((stats_in.f k p2_0 p2_1 p2_2 p2_3 p2_4 p2_5 p2_6 (rdOf 0 t6 v7)).bind fun t9 => (if t9 = true then ((stats_busy.f k p0_0 p0_1 p0_2 p1 (rdOf 0 t6 v7) p3).bind fun t10 => (if t10 = true then (stats_subnet.l2 k t6 p2_0 p2_1 p2_2 p2_3 p2_4 p2_5 p2_6 p0_0 p0_1 p0_2 p1 p3 v2 v4 v5 (wrap64 (v7 + 1)) (wrap64 (v8 - 1))) else (stats_subnet.l2 k t6 p2_0 p2_1 p2_2 p2_3 p2_4 p2_5 p2_6 p0_0 p0_1 p0_2 p1 p3 v2 v4 v5 (wrap64 (v7 + 1)) v8))) else (stats_subnet.l2 k t6 p2_0 p2_1 p2_2 p2_3 p2_4 p2_5 p2_6 p0_0 p0_1 p0_2 p1 p3 v2 v4 v5 (wrap64 (v7 + 1)) v8))) else none) else (some (0, 0, v2, (p2_3.length : Int), v4, v5, v8)))
end
def stats_subnet.f (k : Nat) (p0_0 : Int) (p0_1 : Int) (p0_2 : List (S56)) (p1 : List (S68)) (p2_0 : Int) (p2_1 : Int) (p2_2 : List (S76)) (p2_3 : List (S65)) (p2_4 : Int) (p2_5 : Int) (p2_6 : Int) (p3 : Int) : Option (Int × Int × Int × Int × Int × Int × Int) := (stats_subnet.l0 k p2_2 p1 p2_0 p2_1 p3 p0_0 p0_1 p0_2 p2_3 p2_4 p2_5 p2_6 0 0)
noncomputable def stats_subnet.cx : Cx := ⟨Try.prog, tys, glo, 95, Try.f23, [.cell 8 25], 0⟩
def stats_subnet.Sl0 (r0 : Int) (r1 : Int) (r2 : Int) (r3 : Int) (r4 : Int) (r5 : Int) (r6 : Int) (k : Nat) : Prop := ∀ (p2_2 : List (S76)) (p1 : List (S68)) (p2_0 : Int) (p2_1 : Int) (p3 : Int) (p0_0 : Int) (p0_1 : Int) (p0_2 : List (S56)) (p2_3 : List (S65)) (p2_4 : Int) (p2_5 : Int) (p2_6 : Int) (v1 : Int) (v2 : Int), stats_subnet.l0 k p2_2 p1 p2_0 p2_1 p3 p0_0 p0_1 p0_2 p2_3 p2_4 p2_5 p2_6 v1 v2 = some (r0, r1, r2, r3, r4, r5, r6) → Runs stats_subnet.cx (Pur (.agg [.imm (.int .i64 r0), .imm (.int .i64 r1), .imm (.int .i64 r2), .imm (.int .i64 r3), .imm (.int .i64 r4), .imm (.int .i64 r5), .imm (.int .i64 r6)])) [.code (cP (bodyOf Try.f23) [1, 1, 0, 1, 0, 0]), .inLoop (cP (bodyOf Try.f23) [1, 1, 0, 1, 0, 0]), .inBlock 0, .code (cP (bodyOf Try.f23) [1, 1, 1])] (overF none_ [(1, vS68 p1), (17, vS76 p2_2), (18, .imm (.int .i64 (p2_2.length : Int))), (19, .imm (.int .i64 v1)), (3, .imm (.int .i64 p3)), (4, .ptr [.imm (.int .i64 p0_0), .imm (.int .i64 p0_1), vS56 p0_2]), (6, .ptr [.imm (.int .i64 p2_0), .imm (.int .i64 p2_1), vS76 p2_2, vS65 p2_3, .imm (.int .i64 p2_4), .imm (.int .i64 p2_5), .imm (.int .i64 p2_6)]), (8, .loc 0 0 0), (9, .loc 1 0 0)]) [.mat 1 7 (fun _ => [.imm (.int .i64 0), .imm (.int .i64 0), .imm (.int .i64 0), .imm (.int .i64 0), .imm (.int .i64 0), .imm (.int .i64 0), .imm (.int .i64 0)]), .mat 1 7 (fun _ => [.imm (.int .i64 0), .imm (.int .i64 0), .imm (.int .i64 v2), .imm (.int .i64 0), .imm (.int .i64 0), .imm (.int .i64 0), .imm (.int .i64 0)])]
def stats_subnet.Sl1 (r0 : Int) (r1 : Int) (r2 : Int) (r3 : Int) (r4 : Int) (r5 : Int) (r6 : Int) (k : Nat) : Prop := ∀ (p1 : List (S68)) (p2_0 : Int) (p2_1 : Int) (p3 : Int) (p0_0 : Int) (p0_1 : Int) (p0_2 : List (S56)) (v2 : Int) (p2_2 : List (S76)) (p2_3 : List (S65)) (p2_4 : Int) (p2_5 : Int) (p2_6 : Int) (v3 : Int) (v4 : Int) (v5 : Int), stats_subnet.l1 k p1 p2_0 p2_1 p3 p0_0 p0_1 p0_2 v2 p2_2 p2_3 p2_4 p2_5 p2_6 v3 v4 v5 = some (r0, r1, r2, r3, r4, r5, r6) → Runs stats_subnet.cx (Pur (.agg [.imm (.int .i64 r0), .imm (.int .i64 r1), .imm (.int .i64 r2), .imm (.int .i64 r3), .imm (.int .i64 r4), .imm (.int .i64 r5), .imm (.int .i64 r6)])) [.code (cP (bodyOf Try.f23) [1, 1, 1, 1, 0, 1, 0, 0]), .inLoop (cP (bodyOf Try.f23) [1, 1, 1, 1, 0, 1, 0, 0]), .inBlock 2, .code (cP (bodyOf Try.f23) [1, 1, 1, 1, 1])] (overF none_ [(1, vS68 p1), (3, .imm (.int .i64 p3)), (39, vS68 p1), (4, .ptr [.imm (.int .i64 p0_0), .imm (.int .i64 p0_1), vS56 p0_2]), (40, .imm (.int .i64 (p1.length : Int))), (41, .imm (.int .i64 v3)), (6, .ptr [.imm (.int .i64 p2_0), .imm (.int .i64 p2_1), vS76 p2_2, vS65 p2_3, .imm (.int .i64 p2_4), .imm (.int .i64 p2_5), .imm (.int .i64 p2_6)]), (8, .loc 0 0 0), (9, .loc 1 0 0)]) [.mat 1 7 (fun _ => [.imm (.int .i64 0), .imm (.int .i64 0), .imm (.int .i64 0), .imm (.int .i64 0), .imm (.int .i64 0), .imm (.int .i64 0), .imm (.int .i64 0)]), .mat 1 7 (fun _ => [.imm (.int .i64 0), .imm (.int .i64 0), .imm (.int .i64 v2), .imm (.int .i64 (p2_3.length : Int)), .imm (.int .i64 v4), .imm (.int .i64 v5), .imm (.int .i64 v2)])]
def stats_subnet.Sl2 (r0 : Int) (r1 : Int) (r2 : Int) (r3 : Int) (r4 : Int) (r5 : Int) (r6 : Int) (k : Nat) : Prop := ∀ (t6 : List (Int)) (p2_0 : Int) (p2_1 : Int) (p2_2 : List (S76)) (p2_3 : List (S65)) (p2_4 : Int) (p2_5 : Int) (p2_6 : Int) (p0_0 : Int) (p0_1 : Int) (p0_2 : List (S56)) (p1 : List (S68)) (p3 : Int) (v2 : Int) (v4 : Int) (v5 : Int) (v7 : Int) (v8 : Int), stats_subnet.l2 k t6 p2_0 p2_1 p2_2 p2_3 p2_4 p2_5 p2_6 p0_0 p0_1 p0_2 p1 p3 v2 v4 v5 v7 v8 = some (r0, r1, r2, r3, r4, r5, r6) → Runs stats_subnet.cx (Pur (.agg [.imm (.int .i64 r0), .imm (.int .i64 r1), .imm (.int .i64 r2), .imm (.int .i64 r3), .imm (.int .i64 r4), .imm (.int .i64 r5), .imm (.int .i64 r6)])) [.code (cP (bodyOf Try.f23) [1, 1, 1, 1, 1, 0, 1, 0, 0]), .inLoop (cP (bodyOf Try.f23) [1, 1, 1, 1, 1, 0, 1, 0, 0]), .inBlock 5, .code (cP (bodyOf Try.f23) [1, 1, 1, 1, 1, 1])] (overF none_ [(1, vS68 p1), (3, .imm (.int .i64 p3)), (4, .ptr [.imm (.int .i64 p0_0), .imm (.int .i64 p0_1), vS56 p0_2]), (6, .ptr [.imm (.int .i64 p2_0), .imm (.int .i64 p2_1), vS76 p2_2, vS65 p2_3, .imm (.int .i64 p2_4), .imm (.int .i64 p2_5), .imm (.int .i64 p2_6)]), (73, vI .i64 t6), (74, .imm (.int .i64 (t6.length : Int))), (75, .imm (.int .i64 v7)), (8, .loc 0 0 0), (9, .loc 1 0 0)]) [.mat 1 7 (fun _ => [.imm (.int .i64 0), .imm (.int .i64 0), .imm (.int .i64 0), .imm (.int .i64 0), .imm (.int .i64 0), .imm (.int .i64 0), .imm (.int .i64 0)]), .mat 1 7 (fun _ => [.imm (.int .i64 0), .imm (.int .i64 0), .imm (.int .i64 v2), .imm (.int .i64 (p2_3.length : Int)), .imm (.int .i64 v4), .imm (.int .i64 v5), .imm (.int .i64 v8)])]
def stats_subnet.Sf (r0 : Int) (r1 : Int) (r2 : Int) (r3 : Int) (r4 : Int) (r5 : Int) (r6 : Int) (k : Nat) : Prop := ∀ (p0_0 : Int) (p0_1 : Int) (p0_2 : List (S56)) (p1 : List (S68)) (p2_0 : Int) (p2_1 : Int) (p2_2 : List (S76)) (p2_3 : List (S65)) (p2_4 : Int) (p2_5 : Int) (p2_6 : Int) (p3 : Int), stats_subnet.f k p0_0 p0_1 p0_2 p1 p2_0 p2_1 p2_2 p2_3 p2_4 p2_5 p2_6 p3 = some (r0, r1, r2, r3, r4, r5, r6) → Runs stats_subnet.cx (Pur (.agg [.imm (.int .i64 r0), .imm (.int .i64 r1), .imm (.int .i64 r2), .imm (.int .i64 r3), .imm (.int .i64 r4), .imm (.int .i64 r5), .imm (.int .i64 r6)])) [.code (bodyOf Try.f23)] (frame0 [.agg [.imm (.int .i64 p0_0), .imm (.int .i64 p0_1), vS56 p0_2], vS68 p1, .agg [.imm (.int .i64 p2_0), .imm (.int .i64 p2_1), vS76 p2_2, vS65 p2_3, .imm (.int .i64 p2_4), .imm (.int .i64 p2_5), .imm (.int .i64 p2_6)], .imm (.int .i64 p3)]) []
set_option maxHeartbeats 64000000 in
set_option maxRecDepth 100000 in
theorem stats_subnet.seg (r0 : Int) (r1 : Int) (r2 : Int) (r3 : Int) (r4 : Int) (r5 : Int) (r6 : Int) : (∀ k, stats_subnet.Sl0 r0 r1 r2 r3 r4 r5 r6 k ∧ stats_subnet.Sl1 r0 r1 r2 r3 r4 r5 r6 k ∧ stats_subnet.Sl2 r0 r1 r2 r3 r4 r5 r6 k) ∧ ∀ k, (stats_subnet.Sl0 r0 r1 r2 r3 r4 r5 r6 k ∧ stats_subnet.Sl1 r0 r1 r2 r3 r4 r5 r6 k ∧ stats_subnet.Sl2 r0 r1 r2 r3 r4 r5 r6 k) → stats_subnet.Sf r0 r1 r2 r3 r4 r5 r6 k := by
  have hs : ∀ k, (stats_subnet.Sl0 r0 r1 r2 r3 r4 r5 r6 k ∧ stats_subnet.Sl1 r0 r1 r2 r3 r4 r5 r6 k ∧ stats_subnet.Sl2 r0 r1 r2 r3 r4 r5 r6 k) → (stats_subnet.Sl0 r0 r1 r2 r3 r4 r5 r6 (k + 1) ∧ stats_subnet.Sl1 r0 r1 r2 r3 r4 r5 r6 (k + 1) ∧ stats_subnet.Sl2 r0 r1 r2 r3 r4 r5 r6 (k + 1)) ∧ stats_subnet.Sf r0 r1 r2 r3 r4 r5 r6 k := by
    intro k h
    obtain ⟨h_l0, h_l1, h_l2⟩ := h
    refine ⟨⟨?_, ?_, ?_⟩, ?_⟩
    (intro p2_2 p1 p2_0 p2_1 p3 p0_0 p0_1 p0_2 p2_3 p2_4 p2_5 p2_6 v1 v2 H; rw [stats_subnet.l0] at H; try dsimp only at H)
    rotate_left
    (intro p1 p2_0 p2_1 p3 p0_0 p0_1 p0_2 v2 p2_2 p2_3 p2_4 p2_5 p2_6 v3 v4 v5 H; rw [stats_subnet.l1] at H; try dsimp only at H)
    rotate_left
    (intro t6 p2_0 p2_1 p2_2 p2_3 p2_4 p2_5 p2_6 p0_0 p0_1 p0_2 p1 p3 v2 v4 v5 v7 v8 H; rw [stats_subnet.l2] at H; try dsimp only at H)
    rotate_left
    (intro p0_0 p0_1 p0_2 p1 p2_0 p2_1 p2_2 p2_3 p2_4 p2_5 p2_6 p3 H; unfold stats_subnet.f at H; try dsimp only at H)
    rotate_left
    repeat' (first
      | ((with_reducible have hJ : stats_subnet.l0 _ _ _ _ _ _ _ _ _ _ _ _ _ _ _ = some _ := H); clear hJ; (with_reducible apply Runs.loop); (apply Runs.le [_, _] (h_l0 _ _ _ _ _ _ _ _ _ _ _ _ _ _ H)))
      | ((with_reducible have hJ : stats_subnet.l0 _ _ _ _ _ _ _ _ _ _ _ _ _ _ _ = some _ := H); clear hJ; (with_reducible apply Runs.inLoop); (apply Runs.le [_, _] (h_l0 _ _ _ _ _ _ _ _ _ _ _ _ _ _ H)))
      | ((with_reducible have hJ : stats_subnet.l1 _ _ _ _ _ _ _ _ _ _ _ _ _ _ _ _ _ = some _ := H); clear hJ; (with_reducible apply Runs.loop); (apply Runs.le [_, _] (h_l1 _ _ _ _ _ _ _ _ _ _ _ _ _ _ _ _ H)))
      | ((with_reducible have hJ : stats_subnet.l1 _ _ _ _ _ _ _ _ _ _ _ _ _ _ _ _ _ = some _ := H); clear hJ; (with_reducible apply Runs.inLoop); (apply Runs.le [_, _] (h_l1 _ _ _ _ _ _ _ _ _ _ _ _ _ _ _ _ H)))
      | ((with_reducible have hJ : stats_subnet.l2 _ _ _ _ _ _ _ _ _ _ _ _ _ _ _ _ _ _ _ = some _ := H); clear hJ; (with_reducible apply Runs.loop); (apply Runs.le [_, _] (h_l2 _ _ _ _ _ _ _ _ _ _ _ _ _ _ _ _ _ _ H)))
      | ((with_reducible have hJ : stats_subnet.l2 _ _ _ _ _ _ _ _ _ _ _ _ _ _ _ _ _ _ _ = some _ := H); clear hJ; (with_reducible apply Runs.inLoop); (apply Runs.le [_, _] (h_l2 _ _ _ _ _ _ _ _ _ _ _ _ _ _ _ _ _ _ H)))
      | ((with_reducible replace H := some_ite H); obtain ⟨_, H⟩ := H)
      | (with_reducible replace H := true_ite H)
      | (with_reducible replace H := false_ite H)
      | ((with_reducible have hb := bool_ite H); clear H; rcases hb with ⟨e_, H⟩ | ⟨e_, H⟩ <;> subst e_)
      | ((with_reducible have hb := bool_iteN H); clear H; rcases hb with ⟨e_, H⟩ | ⟨e_, H⟩ <;> subst e_)
      | ((with_reducible apply ROps.pure); (case hop => rfl); (case hw => rfl); (case hdst => rfl); (case hd => rfl))
      | (with_reducible apply ROps.nil)
      | (with_reducible apply Runs.seq)
      | (with_reducible apply Runs.region tysOK)
      | (with_reducible apply Runs.block)
      | (with_reducible apply Runs.skip)
      | (with_reducible apply Runs.inBlock)
      | (with_reducible apply Runs.scope)
      | (with_reducible apply Runs.inScope)
      | (with_reducible apply Runs.label)
      | ((with_reducible apply Runs.condT); (case ho => rfl))
      | ((with_reducible apply Runs.condF); (case ho => rfl))
      | ((with_reducible apply Runs.exit); (case he => rfl))
      | ((with_reducible apply ROps.store); (case hop => rfl); (case hp => rfl); (case hR => rfl); (case hc => rfl); (case hl => first | (dsimp only [setR_one, setR, Nat.beq, cond]; done) | (dsimp only [setR_one, setR, Nat.beq, cond]; rfl) | rfl); (case hl' => first | (dsimp only [List.take, List.drop, List.append, List.nil_append, List.cons_append, List.map, List.length, Nat.add]; rfl) | rfl); (case hw => rfl); (all_goals try rfl))
      | ((with_reducible apply ROps.cmp); (case hop => exact cmpX); (case hw => rfl); (case hdst => rfl); (case hd => rfl); (all_goals (intro h; first | (replace H := ite_pos_ h H) | (replace H := ite_neg_ h H) | (replace H := ite_pos_ (Decidable.not_not.1 h) H) | ((try simp only [rd_T68, rd_T76, rdOf] at h); (try simp only [rd_T68, rd_T76, rdOf] at H); (rw [if_pos h] at H)) | ((try simp only [rd_T68, rd_T76, rdOf] at h); (try simp only [rd_T68, rd_T76, rdOf] at H); (rw [if_neg h] at H)) | contradiction | skip)))
      | ((with_reducible apply ROps.val); (case hop => exact valX); (case hw => rfl); (case hdst => rfl); (case hd => rfl))
      | ((with_reducible apply ROps.idx); (case hop => rfl); (case hx => rfl); (case hi => rfl); (case he => rfl); (case hw => rfl); (case hdst => rfl); (case hd => rfl); (case h0 => first | assumption | omega); (case h1 => first | assumption | omega))
      | ((with_reducible apply ROps.alloc); (case hop => rfl); (case hw => rfl); (all_goals try rfl))
      | ((with_reducible apply ROps.box); (case hop => rfl); (case hx => rfl); (case hrf => rfl); (case hw => rfl); (all_goals try rfl))
      | ((with_reducible apply ROps.lit); (case hop => rfl); (case hti => rfl); (case hsz => rfl); (case hl => rfl); (case hrf => rfl); (case hw => rfl); (all_goals try rfl))
      | ((with_reducible apply ROps.off); (case hw => rfl); (case hdst => rfl); (case hd => rfl))
      | ((with_reducible have hB : (addr_Has.f _ _ _).bind _ = some _ := H); clear hB; (replace H := bind_some' H); (obtain ⟨t_, H1, H⟩ := H); (try dsimp only at H); (with_reducible apply ROps.call); (case hop => rfl); (case hc => exact addr_Has.ok H1); (case ha => exact argsX); (case hw => rfl); (case hdst => rfl); (case hd => rfl))
      | ((with_reducible have hB : (stats_busy.f _ _ _ _ _ _ _).bind _ = some _ := H); clear hB; (replace H := bind_some' H); (obtain ⟨t_, H1, H⟩ := H); (try dsimp only at H); (with_reducible apply ROps.call); (case hop => rfl); (case hc => exact stats_busy.ok H1); (case ha => exact argsX); (case hw => rfl); (case hdst => rfl); (case hd => rfl))
      | ((with_reducible have hB : (stats_in.f _ _ _ _ _ _ _ _ _).bind _ = some _ := H); clear hB; (replace H := bind_some' H); (obtain ⟨t_, H1, H⟩ := H); (try dsimp only at H); (with_reducible apply ROps.call); (case hop => rfl); (case hc => exact stats_in.ok H1); (case ha => exact argsX); (case hw => rfl); (case hdst => rfl); (case hd => rfl))
      | ((with_reducible have hB : (stats_some.f _ _ _ _ _).bind _ = some _ := H); clear hB; (replace H := bind_some' H); (obtain ⟨t_, H1, H⟩ := H); (try dsimp only at H); (with_reducible apply ROps.call); (case hop => rfl); (case hc => exact stats_some.ok H1); (case ha => exact argsX); (case hw => rfl); (case hdst => rfl); (case hd => rfl))
      | ((with_reducible have hB : (table_Holds.f _ _ _ _ _).bind _ = some _ := H); clear hB; (replace H := bind_some' H); (obtain ⟨t_, H1, H⟩ := H); (try dsimp only at H); (with_reducible apply ROps.call); (case hop => rfl); (case hc => exact table_Holds.ok H1); (case ha => exact argsX); (case hw => rfl); (case hdst => rfl); (case hd => rfl))
      | ((with_reducible have hB : (table_Rests.f _ _ _ _ _).bind _ = some _ := H); clear hB; (replace H := bind_some' H); (obtain ⟨t_, H1, H⟩ := H); (try dsimp only at H); (with_reducible apply ROps.call); (case hop => rfl); (case hc => exact table_Rests.ok H1); (case ha => exact argsX); (case hw => rfl); (case hdst => rfl); (case hd => rfl))
      | ((with_reducible have hB : (stats_add.f _ _ _ _ _ _ _ _ _).bind _ = some _ := H); clear hB; (replace H := bind_some' H); (obtain ⟨t_, H1, H⟩ := H); (try dsimp only at H); (with_reducible apply ROps.callM [1]); (case hop => rfl); (case hc => exact stats_add.okM H1); (case hh => exact handsX); (case hn => rfl); (case ha => exact argsMX); (case hRn => rfl); (case hx => rfl); (case hw => rfl); (case hdst => rfl); (case hd => rfl))
      | ((with_reducible apply Runs.retP tysOK); (case hrs => rfl); (case h => rfl); (case hr => (cases H; exact refX)); (case hx => rfl))
      | exact leRX
      | (refine Runs.code_eq (p' := .seq _ _) rfl ?_)
      | (refine Runs.code_eq (p' := .region _ _ _) rfl ?_)
      | (refine Runs.code_eq (p' := .cond _ _ _) rfl ?_)
      | (refine Runs.code_eq (p' := .block _ _) rfl ?_)
      | (refine Runs.code_eq (p' := .loop _) rfl ?_)
      | (refine Runs.code_eq (p' := .exit _) rfl ?_)
      | (refine Runs.code_eq (p' := .ret) rfl ?_)
      | (refine Runs.code_eq (p' := .skip) rfl ?_)
      | (refine Runs.code_eq (p' := .label _) rfl ?_)
      | (refine Runs.code_eq (p' := .scope _) rfl ?_))
  refine ⟨fun k => ?_, fun k h => (hs k h).2⟩
  induction k with
  | zero => exact ⟨(by intro _ _ _ _ _ _ _ _ _ _ _ _ _ _ H; rw [stats_subnet.l0] at H; cases H), (by intro _ _ _ _ _ _ _ _ _ _ _ _ _ _ _ _ H; rw [stats_subnet.l1] at H; cases H), (by intro _ _ _ _ _ _ _ _ _ _ _ _ _ _ _ _ _ _ H; rw [stats_subnet.l2] at H; cases H)⟩
  | succ k ih => exact (hs k ih).1
theorem stats_subnet.ok {k : Nat} {p0_0 : Int} {p0_1 : Int} {p0_2 : List (S56)} {p1 : List (S68)} {p2_0 : Int} {p2_1 : Int} {p2_2 : List (S76)} {p2_3 : List (S65)} {p2_4 : Int} {p2_5 : Int} {p2_6 : Int} {p3 : Int} {r0 : Int} {r1 : Int} {r2 : Int} {r3 : Int} {r4 : Int} {r5 : Int} {r6 : Int} (H : stats_subnet.f k p0_0 p0_1 p0_2 p1 p2_0 p2_1 p2_2 p2_3 p2_4 p2_5 p2_6 p3 = some (r0, r1, r2, r3, r4, r5, r6)) : CallOK Try.prog glo 23 [.agg [.imm (.int .i64 p0_0), .imm (.int .i64 p0_1), vS56 p0_2], vS68 p1, .agg [.imm (.int .i64 p2_0), .imm (.int .i64 p2_1), vS76 p2_2, vS65 p2_3, .imm (.int .i64 p2_4), .imm (.int .i64 p2_5), .imm (.int .i64 p2_6)], .imm (.int .i64 p3)] (.agg [.imm (.int .i64 r0), .imm (.int .i64 r1), .imm (.int .i64 r2), .imm (.int .i64 r3), .imm (.int .i64 r4), .imm (.int .i64 r5), .imm (.int .i64 r6)]) :=
  CallOK.of (c := stats_subnet.cx) (p := bodyOf Try.f23) Try.func23 rfl rfl rfl (Nat.le_of_ble_eq_true rfl) rfl ((stats_subnet.seg r0 r1 r2 r3 r4 r5 r6).2 k ((stats_subnet.seg r0 r1 r2 r3 r4 r5 r6).1 k) p0_0 p0_1 p0_2 p1 p2_0 p2_1 p2_2 p2_3 p2_4 p2_5 p2_6 p3 H)
end Go.Proofs.Ytopbcamlagdieaa.PStats
set_option linter.unusedVariables false
set_option linter.unusedSimpArgs false
namespace Go.Proofs.Ytopbcamlagdieaa.PStats
open Go.RowKit Go.Proofs.YtopbcamlagdieaaW.PrintWords Go.Proofs.YtopbcamlagdieaaW.PrintLast Go.Proofs.YtopbcamlagdieaaW.PrintMore Go.Proofs.Ytopbcamlagdieaa.Abs
/-! ### stats_Count: function 11 -/
mutual
def stats_Count.l0 : Nat → List (S56) → Int → Int → List (S68) → Int → Int → List (S25) → Option (List (S25) × Int)
  | 0, _, _, _, _, _, _, _ => none
  | k + 1, p0_2, p0_0, p0_1, p1, p2, v3, v4 => (if v3 < (p0_2.length : Int) then (if 0 ≤ v3 then (stats_Count.l1 k p0_2 v3 p0_0 p0_1 p1 p2 0 v4) else none) else (some (v4, 0)))
def stats_Count.l1 : Nat → List (S56) → Int → Int → Int → List (S68) → Int → Int → List (S25) → Option (List (S25) × Int)
  | 0, _, _, _, _, _, _, _, _ => none
  | k + 1, p0_2, v3, p0_0, p0_1, p1, p2, v5, v6 => (if v5 < ((rd_T56 p0_2 v3).f0.length : Int) then (if 0 ≤ v5 then ((stats_subnet.f k p0_0 p0_1 p0_2 p1 ((rd_T60 (rd_T56 p0_2 v3).f0 v5).f0) ((rd_T60 (rd_T56 p0_2 v3).f0 v5).f1) ((rd_T60 (rd_T56 p0_2 v3).f0 v5).f2) ((rd_T60 (rd_T56 p0_2 v3).f0 v5).f3) ((rd_T60 (rd_T56 p0_2 v3).f0 v5).f4) ((rd_T60 (rd_T56 p0_2 v3).f0 v5).f5) ((rd_T60 (rd_T56 p0_2 v3).f0 v5).f6) p2).bind fun b7 => (if v6.length + 1 ≤ 2513169434916 then (stats_Count.l1 k p0_2 v3 p0_0 p0_1 p1 p2 (wrap64 (v5 + 1)) (v6 ++ ([(⟨v3, v5, b7.2.2.1, b7.2.2.2.1, b7.2.2.2.2.1, b7.2.2.2.2.2.1, b7.2.2.2.2.2.2⟩ : S25)] : List (S25)))) else none)) else none) else (stats_Count.l0 k p0_2 p0_0 p0_1 p1 p2 (wrap64 (v3 + 1)) v6))
end
def stats_Count.f (k : Nat) (p0_0 : Int) (p0_1 : Int) (p0_2 : List (S56)) (p1 : List (S68)) (p2 : Int) : Option (List (S25) × Int) := ((conf_Check.f k p0_0 p0_1 p0_2).bind fun t1 => (if t1 = 0 then ((table_Right.f k p1).bind fun t2 => (if (!t2) = true then (some (([] : List (S25)), 1)) else (stats_Count.l0 k p0_2 p0_0 p0_1 p1 p2 0 ([] : List (S25))))) else (some (([] : List (S25)), t1))))
noncomputable def stats_Count.cx : Cx := ⟨Try.prog, tys, glo, 55, Try.f11, [.tmp 6, .tmp 7], 0⟩
def stats_Count.Sl0 (r0 : List (S25)) (r1 : Int) (k : Nat) : Prop := ∀ (p0_2 : List (S56)) (p0_0 : Int) (p0_1 : Int) (p1 : List (S68)) (p2 : Int) (v3 : Int) (v4 : List (S25)), stats_Count.l0 k p0_2 p0_0 p0_1 p1 p2 v3 v4 = some (r0, r1) → Runs stats_Count.cx (Pur (.tup [vS25 r0, .imm (.int .i64 r1)])) [.code (cP (bodyOf Try.f11) [1, 1, 1, 1, 0, 1, 0, 0]), .inLoop (cP (bodyOf Try.f11) [1, 1, 1, 1, 0, 1, 0, 0]), .inBlock 0, .code (cP (bodyOf Try.f11) [1, 1, 1, 1, 1])] (overF none_ [(1, vS68 p1), (2, .imm (.int .i64 p2)), (24, vS56 p0_2), (25, .imm (.int .i64 (p0_2.length : Int))), (26, .imm (.int .i64 v3)), (3, .ptr [.imm (.int .i64 p0_0), .imm (.int .i64 p0_1), vS56 p0_2]), (9, .own 0 (v4).length 7 (rowsE eS25 z25 v4))]) [.arr 25 7 (v4).length]
def stats_Count.Sl1 (r0 : List (S25)) (r1 : Int) (k : Nat) : Prop := ∀ (p0_2 : List (S56)) (v3 : Int) (p0_0 : Int) (p0_1 : Int) (p1 : List (S68)) (p2 : Int) (v5 : Int) (v6 : List (S25)), stats_Count.l1 k p0_2 v3 p0_0 p0_1 p1 p2 v5 v6 = some (r0, r1) → Runs stats_Count.cx (Pur (.tup [vS25 r0, .imm (.int .i64 r1)])) [.code (cP (bodyOf Try.f11) [1, 1, 1, 1, 0, 1, 0, 0, 1, 1, 0, 0, 1, 1, 0, 0]), .inLoop (cP (bodyOf Try.f11) [1, 1, 1, 1, 0, 1, 0, 0, 1, 1, 0, 0, 1, 1, 0, 0]), .inBlock 2, .inBlock 1, .code (cP (bodyOf Try.f11) [1, 1, 1, 1, 0, 1, 0, 0, 1, 1, 1]), .inLoop (cP (bodyOf Try.f11) [1, 1, 1, 1, 0, 1, 0, 0]), .inBlock 0, .code (cP (bodyOf Try.f11) [1, 1, 1, 1, 1])] (overF none_ [(1, vS68 p1), (10, .imm (.int .i64 v3)), (2, .imm (.int .i64 p2)), (24, vS56 p0_2), (25, .imm (.int .i64 (p0_2.length : Int))), (26, .imm (.int .i64 v3)), (3, .ptr [.imm (.int .i64 p0_0), .imm (.int .i64 p0_1), vS56 p0_2]), (32, vS60 ((rd_T56 p0_2 v3).f0)), (33, .imm (.int .i64 ((rd_T56 p0_2 v3).f0.length : Int))), (34, .imm (.int .i64 v5)), (9, .own 0 (v6).length 7 (rowsE eS25 z25 v6))]) [.arr 25 7 (v6).length]
def stats_Count.Sf (r0 : List (S25)) (r1 : Int) (k : Nat) : Prop := ∀ (p0_0 : Int) (p0_1 : Int) (p0_2 : List (S56)) (p1 : List (S68)) (p2 : Int), stats_Count.f k p0_0 p0_1 p0_2 p1 p2 = some (r0, r1) → Runs stats_Count.cx (Pur (.tup [vS25 r0, .imm (.int .i64 r1)])) [.code (bodyOf Try.f11)] (frame0 [.agg [.imm (.int .i64 p0_0), .imm (.int .i64 p0_1), vS56 p0_2], vS68 p1, .imm (.int .i64 p2)]) []
set_option maxHeartbeats 64000000 in
set_option maxRecDepth 100000 in
theorem stats_Count.seg (r0 : List (S25)) (r1 : Int) : (∀ k, stats_Count.Sl0 r0 r1 k ∧ stats_Count.Sl1 r0 r1 k) ∧ ∀ k, (stats_Count.Sl0 r0 r1 k ∧ stats_Count.Sl1 r0 r1 k) → stats_Count.Sf r0 r1 k := by
  have hs : ∀ k, (stats_Count.Sl0 r0 r1 k ∧ stats_Count.Sl1 r0 r1 k) → (stats_Count.Sl0 r0 r1 (k + 1) ∧ stats_Count.Sl1 r0 r1 (k + 1)) ∧ stats_Count.Sf r0 r1 k := by
    intro k h
    obtain ⟨h_l0, h_l1⟩ := h
    refine ⟨⟨?_, ?_⟩, ?_⟩
    (intro p0_2 p0_0 p0_1 p1 p2 v3 v4 H; rw [stats_Count.l0] at H; try dsimp only at H)
    rotate_left
    (intro p0_2 v3 p0_0 p0_1 p1 p2 v5 v6 H; rw [stats_Count.l1] at H; try dsimp only at H)
    rotate_left
    (intro p0_0 p0_1 p0_2 p1 p2 H; unfold stats_Count.f at H; try dsimp only at H)
    rotate_left
    repeat' (first
      | ((with_reducible have hJ : stats_Count.l0 _ _ _ _ _ _ _ _ = some _ := H); clear hJ; (with_reducible apply Runs.loop); (apply Runs.le [_] (h_l0 _ _ _ _ _ _ _ H)))
      | ((with_reducible have hJ : stats_Count.l0 _ _ _ _ _ _ _ _ = some _ := H); clear hJ; (with_reducible apply Runs.inLoop); (apply Runs.le [_] (h_l0 _ _ _ _ _ _ _ H)))
      | ((with_reducible have hJ : stats_Count.l1 _ _ _ _ _ _ _ _ _ = some _ := H); clear hJ; (with_reducible apply Runs.loop); (apply Runs.le [_] (h_l1 _ _ _ _ _ _ _ _ H)))
      | ((with_reducible have hJ : stats_Count.l1 _ _ _ _ _ _ _ _ _ = some _ := H); clear hJ; (with_reducible apply Runs.inLoop); (apply Runs.le [_] (h_l1 _ _ _ _ _ _ _ _ H)))
      | ((with_reducible replace H := some_ite H); obtain ⟨_, H⟩ := H)
      | (with_reducible replace H := true_ite H)
      | (with_reducible replace H := false_ite H)
      | ((with_reducible have hb := bool_ite H); clear H; rcases hb with ⟨e_, H⟩ | ⟨e_, H⟩ <;> subst e_)
      | ((with_reducible have hb := bool_iteN H); clear H; rcases hb with ⟨e_, H⟩ | ⟨e_, H⟩ <;> subst e_)
      | ((with_reducible apply ROps.pure); (case hop => rfl); (case hw => rfl); (case hdst => rfl); (case hd => rfl))
      | (with_reducible apply ROps.nil)
      | (with_reducible apply Runs.seq)
      | (with_reducible apply Runs.region tysOK)
      | (with_reducible apply Runs.block)
      | (with_reducible apply Runs.skip)
      | (with_reducible apply Runs.inBlock)
      | (with_reducible apply Runs.scope)
      | (with_reducible apply Runs.inScope)
      | (with_reducible apply Runs.label)
      | ((with_reducible apply Runs.condT); (case ho => rfl))
      | ((with_reducible apply Runs.condF); (case ho => rfl))
      | ((with_reducible apply Runs.exit); (case he => rfl))
      | ((with_reducible apply ROps.store); (case hop => rfl); (case hp => rfl); (case hR => rfl); (case hc => rfl); (case hl => first | (dsimp only [setR_one, setR, Nat.beq, cond]; done) | (dsimp only [setR_one, setR, Nat.beq, cond]; rfl) | rfl); (case hl' => first | (dsimp only [List.take, List.drop, List.append, List.nil_append, List.cons_append, List.map, List.length, Nat.add]; rfl) | rfl); (case hw => rfl); (all_goals try rfl))
      | ((with_reducible apply ROps.cmp); (case hop => exact cmpX); (case hw => rfl); (case hdst => rfl); (case hd => rfl); (all_goals (intro h; first | (replace H := ite_pos_ h H) | (replace H := ite_neg_ h H) | (replace H := ite_pos_ (Decidable.not_not.1 h) H) | ((try simp only [rd_T56, rd_T60, rdOf] at h); (try simp only [rd_T56, rd_T60, rdOf] at H); (rw [if_pos h] at H)) | ((try simp only [rd_T56, rd_T60, rdOf] at h); (try simp only [rd_T56, rd_T60, rdOf] at H); (rw [if_neg h] at H)) | contradiction | skip)))
      | ((with_reducible apply ROps.val); (case hop => exact valX); (case hw => rfl); (case hdst => rfl); (case hd => rfl))
      | ((first | (with_reducible apply ROps.eqS; case hop => rfl) | (with_reducible apply ROps.neS; case hop => rfl)); (case ht => rfl); (case hx => rfl); (case hy => rfl); (case hl => rfl); (case hr => rfl); (case hw => rfl); (case hdst => rfl); (case hd => rfl); (all_goals (intro h; first | (replace H := ite_posF H h) | (replace H := ite_negF H h) | (dsimp only [eqP, eqA] at h) | skip)))
      | ((with_reducible apply ROps.idx); (case hop => rfl); (case hx => rfl); (case hi => rfl); (case he => rfl); (case hw => rfl); (case hdst => rfl); (case hd => rfl); (case h0 => first | assumption | omega); (case h1 => first | assumption | omega))
      | ((with_reducible apply ROps.alloc); (case hop => rfl); (case hw => rfl); (all_goals try rfl))
      | ((with_reducible apply ROps.box); (case hop => rfl); (case hx => rfl); (case hrf => rfl); (case hw => rfl); (all_goals try rfl))
      | ((with_reducible apply ROps.lit); (case hop => rfl); (case hti => rfl); (case hsz => rfl); (case hl => rfl); (case hrf => rfl); (case hw => rfl); (all_goals try rfl))
      | ((with_reducible apply ROps.app); (case hop => rfl); (case hti => rfl); (case hsz => rfl); (case hs => rfl); (case hR => rfl); (case hx => rfl); (case hb => constructor <;> ((try simp only [maxLen, List.length_nil, List.length_cons, List.length_append] at *); omega)); (case hw => rfl); (all_goals try rfl))
      | ((with_reducible apply ROps.appN); (case hop => rfl); (case hti => rfl); (case hsz => rfl); (case hs => rfl); (case hx => rfl); (case hb => constructor <;> ((try simp only [maxLen, List.length_nil, List.length_cons, List.length_append] at *); omega)); (case hw => rfl); (all_goals try rfl))
      | ((with_reducible have hB : (conf_Check.f _ _ _ _).bind _ = some _ := H); clear hB; (replace H := bind_some' H); (obtain ⟨t_, H1, H⟩ := H); (try dsimp only at H); (with_reducible apply ROps.call); (case hop => rfl); (case hc => exact conf_Check.ok H1); (case ha => exact argsX); (case hw => rfl); (case hdst => rfl); (case hd => rfl))
      | ((with_reducible have hB : (stats_subnet.f _ _ _ _ _ _ _ _ _ _ _ _ _).bind _ = some _ := H); clear hB; (replace H := bind_some' H); (obtain ⟨⟨t_0, t_1, t_2, t_3, t_4, t_5, t_6⟩, H1, H⟩ := H); (try dsimp only at H); (with_reducible apply ROps.call); (case hop => rfl); (case hc => exact stats_subnet.ok H1); (case ha => exact argsX); (case hw => rfl); (case hdst => rfl); (case hd => rfl))
      | ((with_reducible have hB : (table_Right.f _ _).bind _ = some _ := H); clear hB; (replace H := bind_some' H); (obtain ⟨t_, H1, H⟩ := H); (try dsimp only at H); (with_reducible apply ROps.call); (case hop => rfl); (case hc => exact table_Right.ok H1); (case ha => exact argsX); (case hw => rfl); (case hdst => rfl); (case hd => rfl))
      | ((with_reducible apply Runs.retP tysOK); (case hrs => rfl); (case h => rfl); (case hr => (cases H; exact refX)); (case hx => rfl))
      | exact leRX
      | (refine Runs.code_eq (p' := .seq _ _) rfl ?_)
      | (refine Runs.code_eq (p' := .region _ _ _) rfl ?_)
      | (refine Runs.code_eq (p' := .cond _ _ _) rfl ?_)
      | (refine Runs.code_eq (p' := .block _ _) rfl ?_)
      | (refine Runs.code_eq (p' := .loop _) rfl ?_)
      | (refine Runs.code_eq (p' := .exit _) rfl ?_)
      | (refine Runs.code_eq (p' := .ret) rfl ?_)
      | (refine Runs.code_eq (p' := .skip) rfl ?_)
      | (refine Runs.code_eq (p' := .label _) rfl ?_)
      | (refine Runs.code_eq (p' := .scope _) rfl ?_))
  refine ⟨fun k => ?_, fun k h => (hs k h).2⟩
  induction k with
  | zero => exact ⟨(by intro _ _ _ _ _ _ _ H; rw [stats_Count.l0] at H; cases H), (by intro _ _ _ _ _ _ _ _ H; rw [stats_Count.l1] at H; cases H)⟩
  | succ k ih => exact (hs k ih).1
theorem stats_Count.ok {k : Nat} {p0_0 : Int} {p0_1 : Int} {p0_2 : List (S56)} {p1 : List (S68)} {p2 : Int} {r0 : List (S25)} {r1 : Int} (H : stats_Count.f k p0_0 p0_1 p0_2 p1 p2 = some (r0, r1)) : CallOK Try.prog glo 11 [.agg [.imm (.int .i64 p0_0), .imm (.int .i64 p0_1), vS56 p0_2], vS68 p1, .imm (.int .i64 p2)] (.tup [vS25 r0, .imm (.int .i64 r1)]) :=
  CallOK.of (c := stats_Count.cx) (p := bodyOf Try.f11) Try.func11 rfl rfl rfl (Nat.le_of_ble_eq_true rfl) rfl ((stats_Count.seg r0 r1).2 k ((stats_Count.seg r0 r1).1 k) p0_0 p0_1 p0_2 p1 p2 H)
end Go.Proofs.Ytopbcamlagdieaa.PStats
