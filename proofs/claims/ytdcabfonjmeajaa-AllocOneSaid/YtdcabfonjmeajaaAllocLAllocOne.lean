/- The given statement on the law AllocOne: for every input that can be read as data the law of the given program returns true and leaves its arguments as they were; no condition beyond the statement's own. -/
import Derived.Below
import Derived.Carry
import Derived.ChangeOld
import Derived.OpenShut
import Derived.ProofKit
import Derived.ShutString
import Derived.SizedLaws
import Derived.Test.YtdcabfonjmeajaaRows
import Derived.WalkKit
import Derived.Test.YtdcabfonjmeajaaAllocZ8
set_option linter.unusedVariables false
set_option linter.unusedSimpArgs false
namespace Go.Proofs.Ytdcabfonjmeajaa.PAlloc
open Go.RowKit Go.Proofs.YtdcabfonjmeajaaW.PrintWords Go.Proofs.YtdcabfonjmeajaaW.PrintLast Go.Proofs.YtdcabfonjmeajaaW.PrintMore Go.Proofs.Ytdcabfonjmeajaa.Abs
/-! ### boarderlaw15_AllocOne: function 13 -/
def boarderlaw15_AllocOne.f (k : Nat) (p0_0 : Int) (p0_1 : Int) (p0_2 : List (S41)) (p1 : List (S47)) (p2 : Int) (p3 : ByteArray) (p4 : ByteArray) (p5 : Int) (p6 : Int) : Option (Bool) := ((boarderlaw15_Great.f k p0_0 p0_1 p0_2 p1 p3).bind fun t1 => (if t1 = true then ((boarderlaw15_knows.f k).bind fun t2 => (some t2)) else (if (p4.size : Int) > 1000 then ((boarderlaw15_knows.f k).bind fun t13 => (some t13)) else (if p3.toList = p4.toList then ((boarderlaw15_knows.f k).bind fun t12 => (some t12)) else ((boarderref12_Get.f k p1 p5).bind fun b3 => (if (!b3.2.2.2.2) = true then ((boarderlaw15_knows.f k).bind fun t4 => (some t4)) else (if b3.2.2.2.1.toList = p4.toList then ((boarderref12_Holds.f b3.1 b3.2.1 b3.2.2.1 b3.2.2.2.1 p6).bind fun t5 => (if (!t5) = true then ((boarderlaw15_knows.f k).bind fun t6 => (some t6)) else ((alloc_Choose.f k p0_0 p0_1 p0_2 p1 p2 p3 p5 p6).bind fun b7 => ((alloc_May.f k p0_0 p0_1 p0_2 p1 p2 p3 p5 p6).bind fun t8 => (if (!t8) = true then (if (!b7.2) = true then ((boarderlaw15_knows.f k).bind fun t9 => (some t9)) else (if b7.1 = p5 then (some false) else ((boarderlaw15_knows.f k).bind fun t10 => (some t10)))) else (some false)))))) else ((boarderlaw15_knows.f k).bind fun t11 => (some t11)))))))))
noncomputable def boarderlaw15_AllocOne.cx : Cx := ⟨Try.prog, tys, glo, 85, Try.f13, [.tmp 14]⟩
def boarderlaw15_AllocOne.Sf (r0 : Bool) (k : Nat) : Prop := ∀ (p0_0 : Int) (p0_1 : Int) (p0_2 : List (S41)) (p1 : List (S47)) (p2 : Int) (p3 : ByteArray) (p4 : ByteArray) (p5 : Int) (p6 : Int), boarderlaw15_AllocOne.f k p0_0 p0_1 p0_2 p1 p2 p3 p4 p5 p6 = some r0 → Runs boarderlaw15_AllocOne.cx (Pur (.imm (.bool r0))) [.code (bodyOf Try.f13)] (frame0 [.agg [.imm (.int .i64 p0_0), .imm (.int .i64 p0_1), vS41 p0_2], vS47 p1, .imm (.int .i64 p2), .imm (.string p3), .imm (.string p4), .imm (.int .i64 p5), .imm (.int .i64 p6)]) []
set_option maxHeartbeats 64000000 in
set_option maxRecDepth 100000 in
theorem boarderlaw15_AllocOne.seg (r0 : Bool) (k : Nat) : boarderlaw15_AllocOne.Sf r0 k := by
  intro p0_0 p0_1 p0_2 p1 p2 p3 p4 p5 p6 H
  unfold boarderlaw15_AllocOne.f at H
  try dsimp only at H
  repeat' (first
    | ((with_reducible replace H := some_ite H); obtain ⟨_, H⟩ := H)
    | (with_reducible replace H := some_bind_ H)
    | (with_reducible replace H := true_ite H)
    | (with_reducible replace H := false_ite H)
    | ((with_reducible have hb := bool_ite H); clear H; rcases hb with ⟨e_, H⟩ | ⟨e_, H⟩ <;> subst e_)
    | ((with_reducible have hb := bool_iteN H); clear H; rcases hb with ⟨e_, H⟩ | ⟨e_, H⟩ <;> subst e_)
    | ((with_reducible apply ROps.pure); (case hop => rfl); (case hw => rfl); (case hdst => rfl); (case hd => rfl))
    | (with_reducible apply ROps.nil)
    | (with_reducible apply Runs.seq)
    | (with_reducible apply Runs.region tysOK)
    | (with_reducible apply Runs.skip)
    | (with_reducible apply Runs.scope)
    | (with_reducible apply Runs.inScope)
    | (with_reducible apply Runs.label)
    | ((with_reducible apply Runs.condT); (case ho => rfl))
    | ((with_reducible apply Runs.condF); (case ho => rfl))
    | ((with_reducible apply ROps.store); (case hop => rfl); (all_goals try rfl))
    | ((with_reducible apply ROps.cmp); (case hop => exact cmpX); (case hw => rfl); (case hdst => rfl); (case hd => rfl); (all_goals (intro h; first | (replace H := ite_pos_ h H) | (replace H := ite_neg_ h H) | (replace H := ite_pos_ (Decidable.not_not.1 h) H) | ((try simp only [rdOf] at h); (try simp only [rdOf] at H); (rw [if_pos h] at H)) | ((try simp only [rdOf] at h); (try simp only [rdOf] at H); (rw [if_neg h] at H)) | contradiction | skip)))
    | ((with_reducible apply ROps.val); (case hop => exact valX); (case hw => rfl); (case hdst => rfl); (case hd => rfl))
    | ((with_reducible apply ROps.alloc); (case hop => rfl); (all_goals try rfl))
    | ((with_reducible apply ROps.box); (case hop => rfl); (case hx => rfl); (case hrf => rfl); (all_goals try rfl))
    | ((with_reducible apply ROps.off); (case hw => rfl); (case hdst => rfl); (case hd => rfl))
    | ((with_reducible have hB : (alloc_Choose.f _ _ _ _ _ _ _ _ _).bind _ = some _ := H); clear hB; (replace H := bind_some' H); (obtain ⟨⟨t_0, t_1⟩, H1, H⟩ := H); (try dsimp only at H); (with_reducible apply ROps.call); (case hop => rfl); (case hc => exact alloc_Choose.ok H1); (case ha => exact argsX); (case hw => rfl); (case hdst => rfl); (case hd => rfl))
    | ((with_reducible have hB : (alloc_May.f _ _ _ _ _ _ _ _ _).bind _ = some _ := H); clear hB; (replace H := bind_some' H); (obtain ⟨t_, H1, H⟩ := H); (try dsimp only at H); (with_reducible apply ROps.call); (case hop => rfl); (case hc => exact alloc_May.ok H1); (case ha => exact argsX); (case hw => rfl); (case hdst => rfl); (case hd => rfl))
    | ((with_reducible have hB : (boarderlaw15_Great.f _ _ _ _ _ _).bind _ = some _ := H); clear hB; (replace H := bind_some' H); (obtain ⟨t_, H1, H⟩ := H); (try dsimp only at H); (with_reducible apply ROps.call); (case hop => rfl); (case hc => exact boarderlaw15_Great.ok H1); (case ha => exact argsX); (case hw => rfl); (case hdst => rfl); (case hd => rfl))
    | ((with_reducible have hB : (boarderlaw15_knows.f _).bind _ = some _ := H); clear hB; (replace H := bind_some' H); (obtain ⟨t_, H1, H⟩ := H); (try dsimp only at H); (with_reducible apply ROps.call); (case hop => rfl); (case hc => exact boarderlaw15_knows.ok H1); (case ha => exact argsX); (case hw => rfl); (case hdst => rfl); (case hd => rfl))
    | ((with_reducible have hB : (boarderref12_Get.f _ _ _).bind _ = some _ := H); clear hB; (replace H := bind_some' H); (obtain ⟨⟨t_0, t_1, t_2, t_3, t_4⟩, H1, H⟩ := H); (try dsimp only at H); (with_reducible apply ROps.call); (case hop => rfl); (case hc => exact boarderref12_Get.ok H1); (case ha => exact argsX); (case hw => rfl); (case hdst => rfl); (case hd => rfl))
    | ((with_reducible have hB : (boarderref12_Holds.f _ _ _ _ _).bind _ = some _ := H); clear hB; (replace H := bind_some' H); (obtain ⟨t_, H1, H⟩ := H); (try dsimp only at H); (with_reducible apply ROps.call); (case hop => rfl); (case hc => exact boarderref12_Holds.ok H1); (case ha => exact argsX); (case hw => rfl); (case hdst => rfl); (case hd => rfl))
    | ((with_reducible apply Runs.retP tysOK); (case hrs => rfl); (case h => rfl); (case hr => (cases H; exact refX)); (case hx => rfl))
    | exact leRX
    | (refine Runs.code_eq (p' := .seq _ _) rfl ?_)
    | (refine Runs.code_eq (p' := .region _ _ _) rfl ?_)
    | (refine Runs.code_eq (p' := .cond _ _ _) rfl ?_)
    | (refine Runs.code_eq (p' := .block _ _) rfl ?_)
    | (refine Runs.code_eq (p' := .loop _) rfl ?_)
    | (refine Runs.code_eq (p' := .exit _) rfl ?_)
    | (refine Runs.code_eq (p' := .ret) rfl ?_)
    | (refine Runs.code_eq (p' := .skip) rfl ?_)
    | (refine Runs.code_eq (p' := .label _) rfl ?_)
    | (refine Runs.code_eq (p' := .scope _) rfl ?_))
theorem boarderlaw15_AllocOne.ok {k : Nat} {p0_0 : Int} {p0_1 : Int} {p0_2 : List (S41)} {p1 : List (S47)} {p2 : Int} {p3 : ByteArray} {p4 : ByteArray} {p5 : Int} {p6 : Int} {r0 : Bool} (H : boarderlaw15_AllocOne.f k p0_0 p0_1 p0_2 p1 p2 p3 p4 p5 p6 = some r0) : CallOK Try.prog glo 13 [.agg [.imm (.int .i64 p0_0), .imm (.int .i64 p0_1), vS41 p0_2], vS47 p1, .imm (.int .i64 p2), .imm (.string p3), .imm (.string p4), .imm (.int .i64 p5), .imm (.int .i64 p6)] (.imm (.bool r0)) :=
  CallOK.of (c := boarderlaw15_AllocOne.cx) (p := bodyOf Try.f13) Try.func13 rfl rfl rfl (Nat.le_of_ble_eq_true rfl) (boarderlaw15_AllocOne.seg r0 k p0_0 p0_1 p0_2 p1 p2 p3 p4 p5 p6 H)
end Go.Proofs.Ytdcabfonjmeajaa.PAlloc
set_option linter.unusedVariables false
set_option linter.unusedSimpArgs false
namespace Go.Proofs.Ytdcabfonjmeajaa.PAlloc
open Go.RowKit Go.Proofs.YtdcabfonjmeajaaW.PrintWords Go.Proofs.YtdcabfonjmeajaaW.PrintLast Go.Proofs.YtdcabfonjmeajaaW.PrintMore Go.Proofs.Ytdcabfonjmeajaa.Abs
/-- What is to be shown of boarderlaw15_AllocOne, with no program in sight. -/
def boarderlaw15_AllocOne.Pure : Prop := ∀ (p0_0 : Int) (p0_1 : Int) (p0_2 : List (S41)) (p1 : List (S47)) (p2 : Int) (p3 : ByteArray) (p4 : ByteArray) (p5 : Int) (p6 : Int), ok24 (⟨p0_0, p0_1, p0_2⟩ : S24) → (fun xs : List (S47) => xs.length ≤ maxLen ∧ ∀ x ∈ xs, ok47 x) p1 → (Lit.int .i64 p2).wf = true → p3.size ≤ 140737488351232 → p4.size ≤ 140737488351232 → (Lit.int .i64 p5).wf = true → (Lit.int .i64 p6).wf = true → ∃ k, boarderlaw15_AllocOne.f k p0_0 p0_1 p0_2 p1 p2 p3 p4 p5 p6 = some true
theorem boarderlaw15_AllocOne.walk (P : boarderlaw15_AllocOne.Pure) (p0_0 : Int) (p0_1 : Int) (p0_2 : List (S41)) (p1 : List (S47)) (p2 : Int) (p3 : ByteArray) (p4 : ByteArray) (p5 : Int) (p6 : Int) (w : World) (ok_0 : ok24 (⟨p0_0, p0_1, p0_2⟩ : S24)) (ok_1 : (fun xs : List (S47) => xs.length ≤ maxLen ∧ ∀ x ∈ xs, ok47 x) p1) (w2 : (Lit.int .i64 p2).wf = true) (w3 : p3.size ≤ 140737488351232) (w4 : p4.size ≤ 140737488351232) (w5 : (Lit.int .i64 p5).wf = true) (w6 : (Lit.int .i64 p6).wf = true) (cs0 : Array Value) (hr0 : RepL w (eS24 (⟨p0_0, p0_1, p0_2⟩ : S24)) cs0.toList) (A1 : Option Addr) (c1 : Nat) (hr1 : RepL w [vS47 p1] [.slice A1 p1.length c1]) :
    Calls Try.prog 13 #[.agg cs0, .slice A1 p1.length c1, .int .i64 p2, .string p3, .string p4, .int .i64 p5, .int .i64 p6] w fun e w' => e = .returned (.bool true) ∧ Below w.heap.size w w' := by
  obtain ⟨k, h⟩ := P p0_0 p0_1 p0_2 p1 p2 p3 p4 p5 p6 ok_0 ok_1 w2 w3 w4 w5 w6
  exact (boarderlaw15_AllocOne.ok h).law (vs := [.agg cs0, .slice A1 p1.length c1, .int .i64 p2, .string p3, .string p4, .int .i64 p5, .int .i64 p6]) (fun _ => .any _) rfl (reps_cons (arg_agg hr0) (reps_cons (arg_one hr1) (reps_cons (.imm _) (reps_cons (.imm _) (reps_cons (.imm _) (reps_cons (.imm _) (reps_cons (.imm _) reps_nil)))))))
end Go.Proofs.Ytdcabfonjmeajaa.PAlloc
set_option linter.unusedVariables false
set_option linter.unusedSimpArgs false
namespace Go.Proofs.Ytdcabfonjmeajaa.Pure
open Go.RowKit Go.Proofs.YtdcabfonjmeajaaW.PrintWords Go.Proofs.YtdcabfonjmeajaaW.PrintLast Go.Proofs.YtdcabfonjmeajaaW.PrintMore Go.Proofs.Ytdcabfonjmeajaa.PAlloc

theorem AllocOne : boarderlaw15_AllocOne.Pure := by
  intro a b nets t n key other x now _ ht _ _ _ _ _
  refine Ev.rounds (great15 ht.1 fun h hs hk => ?_)
  have hk2 : key.size ≤ maxLen := Nat.le_trans hk (by decide)
  refine Ev.ite' (fun _ => knows15) (fun _ => Ev.ite' (fun _ => knows15) (fun hne => ?_))
  refine Ev.bind (a := ans (getL (goodL t) x)) ⟨t.length + 1, fun k hk => boarderref12_Get_s t ht.1 x k (by omega)⟩ ?_
  cases hl : getL (goodL t) x with
  | none => exact Ev.pos (by simp [ans]) knows15
  | some l =>
    refine Ev.neg (by simp [ans]) (Ev.ite' (fun c1 => ?_) (fun _ => knows15))
    refine Ev.bind (Ev.congr (fun _ => boarderref12_Holds_s l now) (Ev.now _)) (Ev.ite' (fun _ => knows15) (fun c2 => ?_))
    have c1 : l.f3.toList = other.toList := c1
    have c2 : holdsB l now = true := by simpa using c2
    have hm : ∀ y, mayA a b nets t n key y now = true → y ≠ x := fun y hy e => by
      subst e
      have hT := (fairA_iff.1 (may_fair hy)).2.1
      have hf := may_free hy
      rw [goodL_of hT] at hl
      unfold freeB at hf
      rw [hl] at hf
      simp only [c2, Bool.and_eq_true, Bool.not_true, Bool.false_or, decide_eq_true_iff] at hf
      exact hne (hf.2.symm.trans c1)
    refine Ev.bind (alloc_Choose_s a b nets h t hs n key hk2 x now) (Ev.bind (alloc_May_s a b nets h t hs n key hk2 x now) (Ev.pos ?_ ?_))
    · cases c : mayA a b nets t n key x now with
      | false => rfl
      | true => exact absurd rfl (hm x c)
    · cases hc : chooseA a b nets t n key x now with
      | none => exact Ev.pos rfl knows15
      | some y => exact Ev.neg (by simp [ansA]) (Ev.neg (hm y (choose_some hc).1) knows15)

end Go.Proofs.Ytdcabfonjmeajaa.Pure
namespace Go.Proofs.Ytdcabfonjmeajaa.allocOne
open Go.Proofs.Ytdcabfonjmeajaa.PAlloc Go.Proofs.Ytdcabfonjmeajaa.Abs Go.ChangeShapes Go.WideShapes Go.ChangeAt Go.RowKit
open Go.ChangeMaps (open_string shut_string)
open Go.Proofs.YtdcabfonjmeajaaW.PrintWords
set_option linter.unusedVariables false
set_option linter.unusedSimpArgs false
theorem own : ownKnob Try.prog.godebug = none := by kernel_rfl
theorem laidOut : laidOutB Try.prog = true := by kernel_rfl
set_option maxRecDepth 100000 in
theorem lifted (os : Os) (started : os.Started) (H : Type) (enc : TypeId × Value → H) :
    ReturnsInHanded {} Try.checked os 13 .any (Rows.allocOneSpec.pre6 enc Try.prog Try.f13 Rows.allocOneRow.domain false) (Rows.allocOneSpec.post enc Try.prog Try.f13 false true false false) := by
  refine returnsInHanded_of_change_sized (C := Try.checked) own started (by kernel_rfl) Try.func13
    (ChangeSpec.witness6 (enc := enc) (C := Try.checked) false ⟨#[], #[.agg #[.int .i64 0, .int .i64 0, .slice none 0 0], .slice none 0 0, .int .i64 0, .string ByteArray.empty, .string ByteArray.empty, .int .i64 0, .int .i64 0], []⟩ 8 (by kernel_rfl) (by kernel_rfl) (by kernel_rfl) (by kernel_rfl)) ?_
  intro W base args ds gs before hval0 hW hcnd hsz0 _
  have hsz : (DataW.weightsEach Try.prog (Try.f13.params.toList ++ Rows.allocOneSpec.plain.varTypes Try.prog) (ds ++ gs)).all (· ≤ reachBytes) = true := hsz0
  have hval : ∀ (j : Nat) t v, Try.f13.params[j]? = some t → args[j]? = some v → Value.okWide Try.prog W .any base t v := hval0
  have hW' := hW
  obtain ⟨p, q, hA0, hV, rfl, hfz, hnd⟩ := hW
  have hA : DataW.TrodAll enc Try.prog W 0 (fun _ => true) true Try.f13.params.toList args.toList ds p := hA0
  rw [Try.params13] at hA hval hsz
  obtain ⟨v0, vs0, d0, ds0, p0, q0, hargs, rfl, rfl, h0, r0⟩ := trodAll_cons hA
  obtain ⟨v1, vs1, d1, ds1, p1, q1, rfl, rfl, rfl, h1, r1⟩ := trodAll_cons r0
  obtain ⟨v2, vs2, d2, ds2, p2, q2, rfl, rfl, rfl, h2, r2⟩ := trodAll_cons r1
  obtain ⟨v3, vs3, d3, ds3, p3, q3, rfl, rfl, rfl, h3, r3⟩ := trodAll_cons r2
  obtain ⟨v4, vs4, d4, ds4, p4, q4, rfl, rfl, rfl, h4, r4⟩ := trodAll_cons r3
  obtain ⟨v5, vs5, d5, ds5, p5, q5, rfl, rfl, rfl, h5, r5⟩ := trodAll_cons r4
  obtain ⟨v6, vs6, d6, ds6, p6, q6, rfl, rfl, rfl, h6, r6⟩ := trodAll_cons r5
  obtain ⟨rfl, rfl, rfl⟩ := trodAll_nil r6
  obtain rfl : args = #[v0, v1, v2, v3, v4, v5, v6] := by cases args; simp_all
  obtain ⟨rfl, rfl⟩ := trodVars_none hV
  have k0 := h0
  have lt0 : ∀ x ∈ p0, x.block < W.heap.size := by obtain ⟨m, hm⟩ := k0; exact DataW.trod_lt m _ _ _ hm
  obtain ⟨cs0, rfl, hcs0⟩ := okWide_struct Try.underlying24 (hval 0 24 v0 rfl rfl)
  obtain ⟨x0, hr0, ok_0⟩ : RaT eS24 ok24 W cs0.toList := by
    obtain ⟨fuel, hf⟩ := h0
    exact ra24 H enc W fuel _ _ hf
  have k1 := h1
  have lt1 : ∀ x ∈ p1, x.block < W.heap.size := by obtain ⟨m, hm⟩ := k1; exact DataW.trod_lt m _ _ _ hm
  obtain ⟨A1, n1, c1, rfl⟩ := okWide_slice Try.underlying42 (hval 1 42 v1 rfl rfl)
  obtain ⟨l1, hr1, ok_1⟩ : RaT (fun l : List (S47) => [vS47 l]) (fun xs : List (S47) => xs.length ≤ maxLen ∧ ∀ x ∈ xs, ok47 x) W [.slice A1 n1 c1] := by
    obtain ⟨fuel, hf⟩ := h1
    exact (ra_slice (d := eS47) (sz := 4) (z := z47) Try.underlying42 (by kernel_rfl) (fun _ => rfl) ra47) H enc W fuel _ _ hf
  obtain rfl : n1 = l1.length := (arg_one hr1).sl_len
  obtain ⟨a2, rfl, rfl, rfl, w2⟩ := open_int Try.underlying3 (hval 2 3 v2 rfl rfl) h2
  obtain ⟨a3, rfl, rfl, rfl, y3⟩ := open_string Try.underlying9 (hval 3 9 v3 rfl rfl) h3
  have w3 : a3.size ≤ 140737488351232 := by
    have z := sized_string hsz (j := 3) (t := 9) rfl rfl
    rw [Array.length_toList] at z
    exact z
  obtain ⟨a4, rfl, rfl, rfl, y4⟩ := open_string Try.underlying9 (hval 4 9 v4 rfl rfl) h4
  have w4 : a4.size ≤ 140737488351232 := by
    have z := sized_string hsz (j := 4) (t := 9) rfl rfl
    rw [Array.length_toList] at z
    exact z
  obtain ⟨a5, rfl, rfl, rfl, w5⟩ := open_int Try.underlying3 (hval 5 3 v5 rfl rfl) h5
  obtain ⟨a6, rfl, rfl, rfl, w6⟩ := open_int Try.underlying3 (hval 6 3 v6 rfl rfl) h6
  clear hA0 hval0 hsz0 hsz
  refine (boarderlaw15_AllocOne.walk Pure.AllocOne x0.f0 x0.f1 x0.f2 l1 a2 a3 a4 a5 a6 W ok_0 ok_1 w2 w3 w4 w5 w6 cs0 hr0 A1 c1 hr1).mono fun e W' ⟨he, bel⟩ => ?_
  subst he
  exact ⟨_, rfl, _, _, _, [], _, [], hW', trodAll_mk1 (shut_bool Try.underlying4 _), (trodAll_cons_mk (Below.trod laidOut (by kernel_rfl) (of_decide_eq_true (by kernel_rfl)) k0 bel lt0) (trodAll_cons_mk (Below.trod laidOut (by kernel_rfl) (of_decide_eq_true (by kernel_rfl)) k1 bel lt1) (trodAll_cons_mk (shut_int Try.underlying3 w2) (trodAll_cons_mk (shut_string Try.underlying9 y3) (trodAll_cons_mk (shut_string Try.underlying9 y4) (trodAll_cons_mk (shut_int Try.underlying3 w5) (trodAll_cons_mk (shut_int Try.underlying3 w6) trodAll_mk0))))))), rfl, bel.frame _, fun h => by cases h⟩
theorem over : Rows.allocOneRow.holds Try.pinned (OpenSpec.ofChange Rows.allocOneSpec) :=
  OpenClaim.holds_of_wide 13 Try.f13 rfl rfl rfl rfl rfl rfl rfl ⟨rfl, rfl, rfl, rfl, rfl⟩ rfl rfl rfl rfl rfl (by kernel_rfl) Try.func13 (by kernel_rfl)
    (of_decide_eq_true (by kernel_rfl)) (by unfold Func.isWrapper; first | (rw [if_pos (by decide +kernel)]; kernel_rfl) | (rw [if_neg (by decide +kernel)]; exact ⟨rfl, rfl⟩))
    (fun os started H enc _ => lifted os started H enc)
theorem proved : Rows.AllocOneSaid := over
#print axioms proved
end Go.Proofs.Ytdcabfonjmeajaa.allocOne
