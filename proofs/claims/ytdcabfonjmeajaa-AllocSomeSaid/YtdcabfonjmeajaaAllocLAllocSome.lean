/- The given statement on the law AllocSome: for every input that can be read as data the law of the given program returns true and leaves its arguments as they were; no condition beyond the statement's own. -/
import Derived.Below
import Derived.Carry
import Derived.ChangeOld
import Derived.OpenShut
import Derived.ProofKit
import Derived.ShutString
import Derived.SizedLaws
import Derived.Test.YtdcabfonjmeajaaRows
import Derived.WalkKit
import Derived.Test.YtdcabfonjmeajaaAllocZ8
set_option linter.unusedVariables false
set_option linter.unusedSimpArgs false
namespace Go.Proofs.Ytdcabfonjmeajaa.PAlloc
open Go.RowKit Go.Proofs.YtdcabfonjmeajaaW.PrintWords Go.Proofs.YtdcabfonjmeajaaW.PrintLast Go.Proofs.YtdcabfonjmeajaaW.PrintMore Go.Proofs.Ytdcabfonjmeajaa.Abs
/-! ### boarderlaw15_AllocSome: function 11 -/
def boarderlaw15_AllocSome.f (k : Nat) (p0_0 : Int) (p0_1 : Int) (p0_2 : List (S41)) (p1 : List (S47)) (p2 : Int) (p3 : ByteArray) (p4 : Int) (p5 : Int) (p6 : Int) : Option (Bool) := ((boarderlaw15_Great.f k p0_0 p0_1 p0_2 p1 p3).bind fun t1 => (if t1 = true then ((boarderlaw15_knows.f k).bind fun t2 => (some t2)) else ((alloc_May.f k p0_0 p0_1 p0_2 p1 p2 p3 p4 p6).bind fun t3 => (if (!t3) = true then ((boarderlaw15_knows.f k).bind fun t4 => (some t4)) else ((alloc_Choose.f k p0_0 p0_1 p0_2 p1 p2 p3 p5 p6).bind fun b5 => ((alloc_Choose.f k p0_0 p0_1 p0_2 p1 p2 p3 p4 p6).bind fun b6 => (if b5.2 = true then (if b6.2 = true then ((alloc_May.f k p0_0 p0_1 p0_2 p1 p2 p3 b6.1 p6).bind fun t7 => (if t7 = true then ((boarderlaw15_knows.f k).bind fun t8 => (some t8)) else (some false))) else (some false)) else (some false))))))))
noncomputable def boarderlaw15_AllocSome.cx : Cx := ⟨Try.prog, tys, glo, 70, Try.f11, [.tmp 14]⟩
def boarderlaw15_AllocSome.Sf (r0 : Bool) (k : Nat) : Prop := ∀ (p0_0 : Int) (p0_1 : Int) (p0_2 : List (S41)) (p1 : List (S47)) (p2 : Int) (p3 : ByteArray) (p4 : Int) (p5 : Int) (p6 : Int), boarderlaw15_AllocSome.f k p0_0 p0_1 p0_2 p1 p2 p3 p4 p5 p6 = some r0 → Runs boarderlaw15_AllocSome.cx (Pur (.imm (.bool r0))) [.code (bodyOf Try.f11)] (frame0 [.agg [.imm (.int .i64 p0_0), .imm (.int .i64 p0_1), vS41 p0_2], vS47 p1, .imm (.int .i64 p2), .imm (.string p3), .imm (.int .i64 p4), .imm (.int .i64 p5), .imm (.int .i64 p6)]) []
set_option maxHeartbeats 64000000 in
set_option maxRecDepth 100000 in
theorem boarderlaw15_AllocSome.seg (r0 : Bool) (k : Nat) : boarderlaw15_AllocSome.Sf r0 k := by
  intro p0_0 p0_1 p0_2 p1 p2 p3 p4 p5 p6 H
  unfold boarderlaw15_AllocSome.f at H
  try dsimp only at H
  repeat' (first
    | ((with_reducible replace H := some_ite H); obtain ⟨_, H⟩ := H)
    | (with_reducible replace H := some_bind_ H)
    | (with_reducible replace H := true_ite H)
    | (with_reducible replace H := false_ite H)
    | ((with_reducible have hb := bool_ite H); clear H; rcases hb with ⟨e_, H⟩ | ⟨e_, H⟩ <;> subst e_)
    | ((with_reducible have hb := bool_iteN H); clear H; rcases hb with ⟨e_, H⟩ | ⟨e_, H⟩ <;> subst e_)
    | ((with_reducible apply ROps.pure); (case hop => rfl); (case hw => rfl); (case hdst => rfl); (case hd => rfl))
    | (with_reducible apply ROps.nil)
    | (with_reducible apply Runs.seq)
    | (with_reducible apply Runs.region tysOK)
    | (with_reducible apply Runs.skip)
    | (with_reducible apply Runs.scope)
    | (with_reducible apply Runs.inScope)
    | (with_reducible apply Runs.label)
    | ((with_reducible apply Runs.condT); (case ho => rfl))
    | ((with_reducible apply Runs.condF); (case ho => rfl))
    | ((with_reducible apply ROps.box); (case hop => rfl); (case hx => rfl); (case hrf => rfl); (all_goals try rfl))
    | ((with_reducible apply ROps.off); (case hw => rfl); (case hdst => rfl); (case hd => rfl))
    | ((with_reducible have hB : (alloc_Choose.f _ _ _ _ _ _ _ _ _).bind _ = some _ := H); clear hB; (replace H := bind_some' H); (obtain ⟨⟨t_0, t_1⟩, H1, H⟩ := H); (try dsimp only at H); (with_reducible apply ROps.call); (case hop => rfl); (case hc => exact alloc_Choose.ok H1); (case ha => exact argsX); (case hw => rfl); (case hdst => rfl); (case hd => rfl))
    | ((with_reducible have hB : (alloc_May.f _ _ _ _ _ _ _ _ _).bind _ = some _ := H); clear hB; (replace H := bind_some' H); (obtain ⟨t_, H1, H⟩ := H); (try dsimp only at H); (with_reducible apply ROps.call); (case hop => rfl); (case hc => exact alloc_May.ok H1); (case ha => exact argsX); (case hw => rfl); (case hdst => rfl); (case hd => rfl))
    | ((with_reducible have hB : (boarderlaw15_Great.f _ _ _ _ _ _).bind _ = some _ := H); clear hB; (replace H := bind_some' H); (obtain ⟨t_, H1, H⟩ := H); (try dsimp only at H); (with_reducible apply ROps.call); (case hop => rfl); (case hc => exact boarderlaw15_Great.ok H1); (case ha => exact argsX); (case hw => rfl); (case hdst => rfl); (case hd => rfl))
    | ((with_reducible have hB : (boarderlaw15_knows.f _).bind _ = some _ := H); clear hB; (replace H := bind_some' H); (obtain ⟨t_, H1, H⟩ := H); (try dsimp only at H); (with_reducible apply ROps.call); (case hop => rfl); (case hc => exact boarderlaw15_knows.ok H1); (case ha => exact argsX); (case hw => rfl); (case hdst => rfl); (case hd => rfl))
    | ((with_reducible apply Runs.retP tysOK); (case hrs => rfl); (case h => rfl); (case hr => (cases H; exact refX)); (case hx => rfl))
    | exact leRX
    | (refine Runs.code_eq (p' := .seq _ _) rfl ?_)
    | (refine Runs.code_eq (p' := .region _ _ _) rfl ?_)
    | (refine Runs.code_eq (p' := .cond _ _ _) rfl ?_)
    | (refine Runs.code_eq (p' := .block _ _) rfl ?_)
    | (refine Runs.code_eq (p' := .loop _) rfl ?_)
    | (refine Runs.code_eq (p' := .exit _) rfl ?_)
    | (refine Runs.code_eq (p' := .ret) rfl ?_)
    | (refine Runs.code_eq (p' := .skip) rfl ?_)
    | (refine Runs.code_eq (p' := .label _) rfl ?_)
    | (refine Runs.code_eq (p' := .scope _) rfl ?_))
theorem boarderlaw15_AllocSome.ok {k : Nat} {p0_0 : Int} {p0_1 : Int} {p0_2 : List (S41)} {p1 : List (S47)} {p2 : Int} {p3 : ByteArray} {p4 : Int} {p5 : Int} {p6 : Int} {r0 : Bool} (H : boarderlaw15_AllocSome.f k p0_0 p0_1 p0_2 p1 p2 p3 p4 p5 p6 = some r0) : CallOK Try.prog glo 11 [.agg [.imm (.int .i64 p0_0), .imm (.int .i64 p0_1), vS41 p0_2], vS47 p1, .imm (.int .i64 p2), .imm (.string p3), .imm (.int .i64 p4), .imm (.int .i64 p5), .imm (.int .i64 p6)] (.imm (.bool r0)) :=
  CallOK.of (c := boarderlaw15_AllocSome.cx) (p := bodyOf Try.f11) Try.func11 rfl rfl rfl (Nat.le_of_ble_eq_true rfl) (boarderlaw15_AllocSome.seg r0 k p0_0 p0_1 p0_2 p1 p2 p3 p4 p5 p6 H)
end Go.Proofs.Ytdcabfonjmeajaa.PAlloc
set_option linter.unusedVariables false
set_option linter.unusedSimpArgs false
namespace Go.Proofs.Ytdcabfonjmeajaa.PAlloc
open Go.RowKit Go.Proofs.YtdcabfonjmeajaaW.PrintWords Go.Proofs.YtdcabfonjmeajaaW.PrintLast Go.Proofs.YtdcabfonjmeajaaW.PrintMore Go.Proofs.Ytdcabfonjmeajaa.Abs
/-- What is to be shown of boarderlaw15_AllocSome, with no program in sight. -/
def boarderlaw15_AllocSome.Pure : Prop := ∀ (p0_0 : Int) (p0_1 : Int) (p0_2 : List (S41)) (p1 : List (S47)) (p2 : Int) (p3 : ByteArray) (p4 : Int) (p5 : Int) (p6 : Int), ok24 (⟨p0_0, p0_1, p0_2⟩ : S24) → (fun xs : List (S47) => xs.length ≤ maxLen ∧ ∀ x ∈ xs, ok47 x) p1 → (Lit.int .i64 p2).wf = true → p3.size ≤ 140737488351232 → (Lit.int .i64 p4).wf = true → (Lit.int .i64 p5).wf = true → (Lit.int .i64 p6).wf = true → ∃ k, boarderlaw15_AllocSome.f k p0_0 p0_1 p0_2 p1 p2 p3 p4 p5 p6 = some true
theorem boarderlaw15_AllocSome.walk (P : boarderlaw15_AllocSome.Pure) (p0_0 : Int) (p0_1 : Int) (p0_2 : List (S41)) (p1 : List (S47)) (p2 : Int) (p3 : ByteArray) (p4 : Int) (p5 : Int) (p6 : Int) (w : World) (ok_0 : ok24 (⟨p0_0, p0_1, p0_2⟩ : S24)) (ok_1 : (fun xs : List (S47) => xs.length ≤ maxLen ∧ ∀ x ∈ xs, ok47 x) p1) (w2 : (Lit.int .i64 p2).wf = true) (w3 : p3.size ≤ 140737488351232) (w4 : (Lit.int .i64 p4).wf = true) (w5 : (Lit.int .i64 p5).wf = true) (w6 : (Lit.int .i64 p6).wf = true) (cs0 : Array Value) (hr0 : RepL w (eS24 (⟨p0_0, p0_1, p0_2⟩ : S24)) cs0.toList) (A1 : Option Addr) (c1 : Nat) (hr1 : RepL w [vS47 p1] [.slice A1 p1.length c1]) :
    Calls Try.prog 11 #[.agg cs0, .slice A1 p1.length c1, .int .i64 p2, .string p3, .int .i64 p4, .int .i64 p5, .int .i64 p6] w fun e w' => e = .returned (.bool true) ∧ Below w.heap.size w w' := by
  obtain ⟨k, h⟩ := P p0_0 p0_1 p0_2 p1 p2 p3 p4 p5 p6 ok_0 ok_1 w2 w3 w4 w5 w6
  exact (boarderlaw15_AllocSome.ok h).law (vs := [.agg cs0, .slice A1 p1.length c1, .int .i64 p2, .string p3, .int .i64 p4, .int .i64 p5, .int .i64 p6]) (fun _ => .any _) rfl (reps_cons (arg_agg hr0) (reps_cons (arg_one hr1) (reps_cons (.imm _) (reps_cons (.imm _) (reps_cons (.imm _) (reps_cons (.imm _) (reps_cons (.imm _) reps_nil)))))))
end Go.Proofs.Ytdcabfonjmeajaa.PAlloc
set_option linter.unusedVariables false
set_option linter.unusedSimpArgs false
namespace Go.Proofs.Ytdcabfonjmeajaa.Pure
open Go.RowKit Go.Proofs.YtdcabfonjmeajaaW.PrintWords Go.Proofs.YtdcabfonjmeajaaW.PrintLast Go.Proofs.YtdcabfonjmeajaaW.PrintMore Go.Proofs.Ytdcabfonjmeajaa.PAlloc

theorem AllocSome : boarderlaw15_AllocSome.Pure := by
  intro a b nets t n key x want now _ ht _ _ _ _ _
  refine Ev.rounds (great15 ht.1 fun h hs hk => ?_)
  have hk2 : key.size ≤ maxLen := Nat.le_trans hk (by decide)
  refine Ev.bind (alloc_May_s a b nets h t hs n key hk2 x now) (Ev.ite' (fun _ => knows15) (fun c => ?_))
  have c : mayA a b nets t n key x now = true := by simpa using c
  obtain ⟨y, hy⟩ := some_of_may c want
  obtain ⟨z, hz⟩ := some_of_may c x
  refine Ev.bind (alloc_Choose_s a b nets h t hs n key hk2 want now) (Ev.bind (alloc_Choose_s a b nets h t hs n key hk2 x now) ?_)
  rw [hy, hz]
  exact Ev.pos rfl (Ev.pos rfl (Ev.bind (alloc_May_s a b nets h t hs n key hk2 z now) (Ev.pos (choose_some hz).1 knows15)))

end Go.Proofs.Ytdcabfonjmeajaa.Pure
namespace Go.Proofs.Ytdcabfonjmeajaa.allocSome
open Go.Proofs.Ytdcabfonjmeajaa.PAlloc Go.Proofs.Ytdcabfonjmeajaa.Abs Go.ChangeShapes Go.WideShapes Go.ChangeAt Go.RowKit
open Go.ChangeMaps (open_string shut_string)
open Go.Proofs.YtdcabfonjmeajaaW.PrintWords
set_option linter.unusedVariables false
set_option linter.unusedSimpArgs false
theorem own : ownKnob Try.prog.godebug = none := by kernel_rfl
theorem laidOut : laidOutB Try.prog = true := by kernel_rfl
set_option maxRecDepth 100000 in
theorem lifted (os : Os) (started : os.Started) (H : Type) (enc : TypeId × Value → H) :
    ReturnsInHanded {} Try.checked os 11 .any (Rows.allocSomeSpec.pre6 enc Try.prog Try.f11 Rows.allocSomeRow.domain false) (Rows.allocSomeSpec.post enc Try.prog Try.f11 false true false false) := by
  refine returnsInHanded_of_change_sized (C := Try.checked) own started (by kernel_rfl) Try.func11
    (ChangeSpec.witness6 (enc := enc) (C := Try.checked) false ⟨#[], #[.agg #[.int .i64 0, .int .i64 0, .slice none 0 0], .slice none 0 0, .int .i64 0, .string ByteArray.empty, .int .i64 0, .int .i64 0, .int .i64 0], []⟩ 8 (by kernel_rfl) (by kernel_rfl) (by kernel_rfl) (by kernel_rfl)) ?_
  intro W base args ds gs before hval0 hW hcnd hsz0 _
  have hsz : (DataW.weightsEach Try.prog (Try.f11.params.toList ++ Rows.allocSomeSpec.plain.varTypes Try.prog) (ds ++ gs)).all (· ≤ reachBytes) = true := hsz0
  have hval : ∀ (j : Nat) t v, Try.f11.params[j]? = some t → args[j]? = some v → Value.okWide Try.prog W .any base t v := hval0
  have hW' := hW
  obtain ⟨p, q, hA0, hV, rfl, hfz, hnd⟩ := hW
  have hA : DataW.TrodAll enc Try.prog W 0 (fun _ => true) true Try.f11.params.toList args.toList ds p := hA0
  rw [Try.params11] at hA hval hsz
  obtain ⟨v0, vs0, d0, ds0, p0, q0, hargs, rfl, rfl, h0, r0⟩ := trodAll_cons hA
  obtain ⟨v1, vs1, d1, ds1, p1, q1, rfl, rfl, rfl, h1, r1⟩ := trodAll_cons r0
  obtain ⟨v2, vs2, d2, ds2, p2, q2, rfl, rfl, rfl, h2, r2⟩ := trodAll_cons r1
  obtain ⟨v3, vs3, d3, ds3, p3, q3, rfl, rfl, rfl, h3, r3⟩ := trodAll_cons r2
  obtain ⟨v4, vs4, d4, ds4, p4, q4, rfl, rfl, rfl, h4, r4⟩ := trodAll_cons r3
  obtain ⟨v5, vs5, d5, ds5, p5, q5, rfl, rfl, rfl, h5, r5⟩ := trodAll_cons r4
  obtain ⟨v6, vs6, d6, ds6, p6, q6, rfl, rfl, rfl, h6, r6⟩ := trodAll_cons r5
  obtain ⟨rfl, rfl, rfl⟩ := trodAll_nil r6
  obtain rfl : args = #[v0, v1, v2, v3, v4, v5, v6] := by cases args; simp_all
  obtain ⟨rfl, rfl⟩ := trodVars_none hV
  have k0 := h0
  have lt0 : ∀ x ∈ p0, x.block < W.heap.size := by obtain ⟨m, hm⟩ := k0; exact DataW.trod_lt m _ _ _ hm
  obtain ⟨cs0, rfl, hcs0⟩ := okWide_struct Try.underlying24 (hval 0 24 v0 rfl rfl)
  obtain ⟨x0, hr0, ok_0⟩ : RaT eS24 ok24 W cs0.toList := by
    obtain ⟨fuel, hf⟩ := h0
    exact ra24 H enc W fuel _ _ hf
  have k1 := h1
  have lt1 : ∀ x ∈ p1, x.block < W.heap.size := by obtain ⟨m, hm⟩ := k1; exact DataW.trod_lt m _ _ _ hm
  obtain ⟨A1, n1, c1, rfl⟩ := okWide_slice Try.underlying42 (hval 1 42 v1 rfl rfl)
  obtain ⟨l1, hr1, ok_1⟩ : RaT (fun l : List (S47) => [vS47 l]) (fun xs : List (S47) => xs.length ≤ maxLen ∧ ∀ x ∈ xs, ok47 x) W [.slice A1 n1 c1] := by
    obtain ⟨fuel, hf⟩ := h1
    exact (ra_slice (d := eS47) (sz := 4) (z := z47) Try.underlying42 (by kernel_rfl) (fun _ => rfl) ra47) H enc W fuel _ _ hf
  obtain rfl : n1 = l1.length := (arg_one hr1).sl_len
  obtain ⟨a2, rfl, rfl, rfl, w2⟩ := open_int Try.underlying3 (hval 2 3 v2 rfl rfl) h2
  obtain ⟨a3, rfl, rfl, rfl, y3⟩ := open_string Try.underlying9 (hval 3 9 v3 rfl rfl) h3
  have w3 : a3.size ≤ 140737488351232 := by
    have z := sized_string hsz (j := 3) (t := 9) rfl rfl
    rw [Array.length_toList] at z
    exact z
  obtain ⟨a4, rfl, rfl, rfl, w4⟩ := open_int Try.underlying3 (hval 4 3 v4 rfl rfl) h4
  obtain ⟨a5, rfl, rfl, rfl, w5⟩ := open_int Try.underlying3 (hval 5 3 v5 rfl rfl) h5
  obtain ⟨a6, rfl, rfl, rfl, w6⟩ := open_int Try.underlying3 (hval 6 3 v6 rfl rfl) h6
  clear hA0 hval0 hsz0 hsz
  refine (boarderlaw15_AllocSome.walk Pure.AllocSome x0.f0 x0.f1 x0.f2 l1 a2 a3 a4 a5 a6 W ok_0 ok_1 w2 w3 w4 w5 w6 cs0 hr0 A1 c1 hr1).mono fun e W' ⟨he, bel⟩ => ?_
  subst he
  exact ⟨_, rfl, _, _, _, [], _, [], hW', trodAll_mk1 (shut_bool Try.underlying4 _), (trodAll_cons_mk (Below.trod laidOut (by kernel_rfl) (of_decide_eq_true (by kernel_rfl)) k0 bel lt0) (trodAll_cons_mk (Below.trod laidOut (by kernel_rfl) (of_decide_eq_true (by kernel_rfl)) k1 bel lt1) (trodAll_cons_mk (shut_int Try.underlying3 w2) (trodAll_cons_mk (shut_string Try.underlying9 y3) (trodAll_cons_mk (shut_int Try.underlying3 w4) (trodAll_cons_mk (shut_int Try.underlying3 w5) (trodAll_cons_mk (shut_int Try.underlying3 w6) trodAll_mk0))))))), rfl, bel.frame _, fun h => by cases h⟩
theorem over : Rows.allocSomeRow.holds Try.pinned (OpenSpec.ofChange Rows.allocSomeSpec) :=
  OpenClaim.holds_of_wide 11 Try.f11 rfl rfl rfl rfl rfl rfl rfl ⟨rfl, rfl, rfl, rfl, rfl⟩ rfl rfl rfl rfl rfl (by kernel_rfl) Try.func11 (by kernel_rfl)
    (of_decide_eq_true (by kernel_rfl)) (by unfold Func.isWrapper; first | (rw [if_pos (by decide +kernel)]; kernel_rfl) | (rw [if_neg (by decide +kernel)]; exact ⟨rfl, rfl⟩))
    (fun os started H enc _ => lifted os started H enc)
theorem proved : Rows.AllocSomeSaid := over
#print axioms proved
end Go.Proofs.Ytdcabfonjmeajaa.allocSome
