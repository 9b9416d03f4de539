/- The given statement on the law ConfOrder: for every input that can be read as data the law of the given program returns true and leaves its arguments as they were; no condition beyond the statement's own. -/
import Derived.Below
import Derived.Carry
import Derived.ChangeOld
import Derived.OpenShut
import Derived.ProofKit
import Derived.ShutString
import Derived.SizedLaws
import Derived.Test.YtdcabfonjmeajaaRows
import Derived.WalkKit
import Derived.Test.YtdcabfonjmeajaaOrderZ6
set_option linter.unusedVariables false
set_option linter.unusedSimpArgs false
namespace Go.Proofs.Ytdcabfonjmeajaa.POrder
open Go.RowKit Go.Proofs.YtdcabfonjmeajaaW.PrintWords Go.Proofs.YtdcabfonjmeajaaW.PrintLast Go.Proofs.YtdcabfonjmeajaaW.PrintMore Go.Proofs.Ytdcabfonjmeajaa.Abs
/-- What is to be shown of boarderlaw13_ConfOrder, with no program in sight. -/
def boarderlaw13_ConfOrder.Pure : Prop := ∀ (p0_0 : Int) (p0_1 : Int) (p0_2 : List (S41)) (p1 : Int) (p2 : Int), ok24 (⟨p0_0, p0_1, p0_2⟩ : S24) → (Lit.int .i64 p1).wf = true → (Lit.int .i64 p2).wf = true → ∃ k, boarderlaw13_ConfOrder.f k p0_0 p0_1 p0_2 p1 p2 = some true
theorem boarderlaw13_ConfOrder.walk (P : boarderlaw13_ConfOrder.Pure) (p0_0 : Int) (p0_1 : Int) (p0_2 : List (S41)) (p1 : Int) (p2 : Int) (w : World) (ok_0 : ok24 (⟨p0_0, p0_1, p0_2⟩ : S24)) (w1 : (Lit.int .i64 p1).wf = true) (w2 : (Lit.int .i64 p2).wf = true) (cs0 : Array Value) (hr0 : RepL w (eS24 (⟨p0_0, p0_1, p0_2⟩ : S24)) cs0.toList) :
    Calls Try.prog 6 #[.agg cs0, .int .i64 p1, .int .i64 p2] w fun e w' => e = .returned (.bool true) ∧ Below w.heap.size w w' := by
  obtain ⟨k, h⟩ := P p0_0 p0_1 p0_2 p1 p2 ok_0 w1 w2
  exact (boarderlaw13_ConfOrder.ok h).law (vs := [.agg cs0, .int .i64 p1, .int .i64 p2]) (fun _ => .any _) rfl (reps_cons (arg_agg hr0) (reps_cons (.imm _) (reps_cons (.imm _) reps_nil)))
end Go.Proofs.Ytdcabfonjmeajaa.POrder
set_option linter.unusedVariables false
set_option linter.unusedSimpArgs false
namespace Go.Proofs.Ytdcabfonjmeajaa.Pure
open Go.RowKit Go.Proofs.YtdcabfonjmeajaaW.PrintWords Go.Proofs.YtdcabfonjmeajaaW.PrintLast Go.Proofs.YtdcabfonjmeajaaW.PrintMore Go.Proofs.Ytdcabfonjmeajaa.POrder

theorem Ev.iteO {α : Type} {c : Prop} [Decidable c] {f g : Nat → Option α} {r : α} (h1 : c → Ev f r) (h2 : ¬ c → Ev g r) : Ev (fun k => if c then f k else g k) r := by
  by_cases c : c
  · exact Ev.pos c (h1 c)
  · exact Ev.neg c (h2 c)
/-- What two subnets are to be like, of one network or of two. -/
def QS (same : Prop) (s t : Sb) : Prop := meetC t.f0 t.f1 s.f0 s.f1 = false ∧ ¬ (¬ same ∧ t.f4 = s.f4 ∧ t.f4 > 0) ∧ ∀ r ∈ s.f3, ∀ q ∈ t.f3, q.f1 ≠ r.f1 ∧ ¬ (same ∧ q.f0.toList = r.f0.toList)
def QP (x y : Sp) : Prop := FarS y x ∧ ∀ r ∈ x.f2.f3, ∀ q ∈ y.f2.f3, DifR y.f0 x.f0 q r
theorem QP_iff {x y : Sp} {same : Prop} (h : y.f0 = x.f0 ↔ same) : QP x y ↔ QS same x.f2 y.f2 := by
  unfold QP QS FarS DifR
  constructor
  · rintro ⟨⟨h1, h2⟩, h3⟩
    exact ⟨h1, fun h4 => h2 ⟨fun e => h4.1 (h.1 e), h4.2⟩, fun r hr q hq => ⟨(h3 r hr q hq).1, fun h4 => (h3 r hr q hq).2 ⟨h.2 h4.1, h4.2⟩⟩⟩
  · rintro ⟨h1, h2, h3⟩
    exact ⟨⟨h1, fun h4 => h2 ⟨fun e => h4.1 (h.2 e), h4.2⟩⟩, fun r hr q hq => ⟨(h3 r hr q hq).1, fun h4 => (h3 r hr q hq).2 ⟨h.1 h4.1, h4.2⟩⟩⟩
theorem QS_symm {s t : Sb} (h : QS False s t) : QS False t s := by
  obtain ⟨h1, h2, h3⟩ := h
  exact ⟨by rw [meetC_comm]; exact h1, fun h4 => h2 ⟨fun f => f, h4.2.1.symm, by rw [← h4.2.1]; exact h4.2.2⟩, fun r hr q hq => ⟨fun e => (h3 q hq r hr).1 e.symm, fun f => f.1⟩⟩
theorem spots_ge {v : Sp} : ∀ {n : Nat} {nets : List Nt}, v ∈ spotsFrom n nets → (n : Int) ≤ v.f0
  | n, x :: r, h => by
    rw [spotsFrom, List.mem_append] at h
    rcases h with h | h
    · rw [(subAt_mem h).1]; exact Int.le_refl _
    · have := spots_ge h
      omega
theorem sub_pw (n : Int) : ∀ (i : Nat) (l : List Sb), (subAt n i l).Pairwise QP ↔ l.Pairwise (QS True)
  | _, [] => by simp [subAt]
  | i, s :: r => by
    rw [subAt, List.pairwise_cons, List.pairwise_cons, sub_pw n (i + 1) r]
    refine and_congr ⟨fun h t ht => ?_, fun h y hy => ?_⟩ Iff.rfl
    · obtain ⟨y, hy, rfl⟩ := subAt_of (n := n) (i := i + 1) ht
      exact (QP_iff (iff_true_intro (subAt_mem hy).1)).1 (h y hy)
    · exact (QP_iff (iff_true_intro (subAt_mem hy).1)).2 (h y.f2 (subAt_mem hy).2)
theorem spots_pw : ∀ (n : Nat) (nets : List Nt), (spotsFrom n nets).Pairwise QP ↔ (∀ x ∈ nets, x.f0.Pairwise (QS True)) ∧ nets.Pairwise (fun x y => ∀ s ∈ x.f0, ∀ t ∈ y.f0, QS False s t)
  | _, [] => by simp [spotsFrom]
  | n, x :: r => by
    rw [spotsFrom, List.pairwise_append, sub_pw, spots_pw (n + 1) r, List.pairwise_cons, List.forall_mem_cons]
    have e : (∀ u ∈ subAt (n : Int) 0 x.f0, ∀ v ∈ spotsFrom (n + 1) r, QP u v) ↔ ∀ y ∈ r, ∀ s ∈ x.f0, ∀ t ∈ y.f0, QS False s t := by
      constructor
      · intro h y hy s hs t ht
        obtain ⟨u, hu, rfl⟩ := subAt_of (n := (n : Int)) (i := 0) hs
        obtain ⟨v, hv, rfl⟩ := spots_of ht (n := n + 1) hy
        have h1 := spots_ge hv
        have h2 := (subAt_mem hu).1
        exact (QP_iff (iff_false_intro (by omega))).1 (h u hu v hv)
      · intro h u hu v hv
        have h1 := spots_ge hv
        obtain ⟨h2, h3⟩ := subAt_mem hu
        obtain ⟨y, hy, hvy⟩ := spots_mem hv
        exact (QP_iff (iff_false_intro (by omega))).2 (h y hy u.f2 h3 v.f2 hvy)
    rw [e]
    constructor
    · rintro ⟨h1, ⟨h2, h3⟩, h4⟩; exact ⟨⟨h1, h2⟩, h4, h3⟩
    · rintro ⟨⟨h1, h2⟩, h4, h3⟩; exact ⟨h1, ⟨h2, h3⟩, h4⟩
/-- What one subnet is to be like by itself. -/
def OwnS (s : Sb) : Prop := ¬ PooledP s ∧ s.f3.Pairwise (fun r q => DifR 0 0 q r)
theorem dif_same (n : Int) (r q : Rs) : DifR n n q r ↔ DifR 0 0 q r := by
  unfold DifR
  simp
theorem free_iff (l : List Sp) : FreeP l ↔ (∀ x ∈ l, OwnS x.f2) ∧ l.Pairwise QP := by
  unfold FreeP OwnS
  rw [pw_iff (D := DD), resL_pw]
  constructor
  · rintro ⟨h1, h2, h3⟩
    refine ⟨fun x hx => ⟨?_, (h2 x hx).imp (fun h => (dif_same _ _ _).1 h)⟩, ?_⟩
    · obtain ⟨i, hi, rfl⟩ := List.mem_iff_getElem.1 hx
      exact (h1 i hi).1
    · have h4 : l.Pairwise (fun x y => FarS y x) := pw_iff.1 (fun i j hi hj => (h1 i hi).2 j hj)
      exact (h4.and h3).imp (fun h => h)
  · rintro ⟨h1, h2⟩
    refine ⟨fun i hi => ⟨(h1 _ (List.getElem_mem hi)).1, ?_⟩, fun x hx => (h1 x hx).2.imp (fun h => (dif_same _ _ _).2 h), h2.imp (fun h => h.2)⟩
    intro j hj
    exact (pw_iff.2 (h2.imp (fun h => h.1)) i j hi hj : FarS l[i] l[j])
/-- The order of the networks is nothing to what is wrong with a configuration. -/
theorem check_perm {a b : Int} {l m : List Nt} (h : List.Perm l m) : checkI a b l = checkI a b m := by
  have hm : ∀ x, x ∈ l ↔ x ∈ m := fun x => h.mem_iff
  have hF : FormP a b l ↔ FormP a b m := by
    unfold FormP
    simp only [h.length_eq, hm]
  have hP : (∀ n ∈ l, ∀ s ∈ n.f0, PlaceS a s) ↔ ∀ n ∈ m, ∀ s ∈ n.f0, PlaceS a s := by simp only [hm]
  unfold checkI
  by_cases c1 : FormP a b l
  · have hU : UnlikeP (spotsL l) ↔ UnlikeP (spotsL m) := by
      have hv : ∀ k : List Nt, FormP a b k → ∀ x ∈ spotsL k, ∀ i, (hi : i < x.f2.f2.length) → x.f2.f2[i].f0 ≤ x.f2.f2[i].f1 := fun k hk x hx i hi => by
        obtain ⟨y, hy, hs⟩ := spots_mem hx
        exact (hk.2.2.2.2.2.2 y hy _ hs).2.2.2.2.2.2.2.2.2.1 i hi
      rw [unlike_iff (hv l c1), unlike_iff (hv m (hF.1 c1)), free_iff, free_iff, spots_all (F := OwnS), spots_all (F := OwnS)]
      unfold spotsL
      rw [spots_pw, spots_pw, h.pairwise_iff (fun hxy s hs t ht => QS_symm (hxy t ht s hs))]
      simp only [hm]
    rw [if_pos c1, if_pos (hF.1 c1)]
    by_cases c2 : ∀ n ∈ l, ∀ s ∈ n.f0, PlaceS a s
    · rw [if_pos c2, if_pos (hP.1 c2)]
      by_cases c3 : UnlikeP (spotsL l)
      · rw [if_pos c3, if_pos (hU.1 c3)]
      · rw [if_neg c3, if_neg (fun e => c3 (hU.2 e))]
    · rw [if_neg c2, if_neg (fun e => c2 (hP.2 e))]
  · rw [if_neg c1, if_neg (fun e => c1 (hF.2 e))]
open Classical in
theorem ConfOrder : boarderlaw13_ConfOrder.Pure := by
  intro a b nets i k _ _ _
  have hk : Ev (fun k => (boarderlaw13_knows.f k).bind fun t => some t) true := Ev.bind boarderlaw13_knows_s Ev.some'
  refine Ev.rounds (Ev.bind (boarderlaw13_Great_s a b nets) (Ev.iteO (fun _ => hk) (fun c => ?_)))
  have h : Sm nets := by
    rw [decide_eq_true_iff] at c
    exact Classical.not_not.1 c
  refine Ev.iteO (fun _ => hk) (fun c1 => Ev.iteO (fun _ => hk) (fun c2 => Ev.iteO (fun _ => hk) (fun c3 => Ev.iteO (fun _ => hk) (fun c4 => ?_))))
  have hi : i.toNat < nets.length := by omega
  have hj : k.toNat < nets.length := by omega
  have h10 := h.1
  have e1 : rd_T41 nets i = nets[i.toNat] := by
    have := rd_get (d := z41) hi
    rw [show ((i.toNat : Nat) : Int) = i by omega] at this
    exact this
  have e2 : rd_T41 nets k = nets[k.toNat] := by
    have := rd_get (d := z41) hj
    rw [show ((k.toNat : Nat) : Int) = k by omega] at this
    exact this
  rw [e1, e2]
  have hp : List.Perm ((nets.set i.toNat nets[k.toNat]).set k.toNat nets[i.toNat]) nets := List.set_set_perm hi hj
  have h2 : Sm ((nets.set i.toNat nets[k.toNat]).set k.toNat nets[i.toNat]) := ⟨by rw [hp.length_eq]; exact h.1, fun n hn => h.2 n (hp.mem_iff.1 hn)⟩
  refine Ev.pos (by omega) (Ev.pos (by omega) (Ev.pos (by omega) (Ev.pos (by omega) (Ev.pos (by omega) (Ev.pos (by omega) (Ev.pos (by rw [List.length_set]; omega) ?_))))))
  exact Ev.bind (conf_Check_s a b nets h) (Ev.bind (conf_Check_s a b _ h2) (Ev.pos (check_perm hp).symm hk))

end Go.Proofs.Ytdcabfonjmeajaa.Pure
namespace Go.Proofs.Ytdcabfonjmeajaa.confOrder
open Go.Proofs.Ytdcabfonjmeajaa.POrder Go.Proofs.Ytdcabfonjmeajaa.Abs Go.ChangeShapes Go.WideShapes Go.ChangeAt Go.RowKit
open Go.ChangeMaps (open_string shut_string)
open Go.Proofs.YtdcabfonjmeajaaW.PrintWords
set_option linter.unusedVariables false
set_option linter.unusedSimpArgs false
theorem own : ownKnob Try.prog.godebug = none := by kernel_rfl
theorem laidOut : laidOutB Try.prog = true := by kernel_rfl
set_option maxRecDepth 100000 in
theorem lifted (os : Os) (started : os.Started) (H : Type) (enc : TypeId × Value → H) :
    ReturnsInHanded {} Try.checked os 6 .any (Rows.confOrderSpec.pre6 enc Try.prog Try.f6 Rows.confOrderRow.domain false) (Rows.confOrderSpec.post enc Try.prog Try.f6 false true false false) := by
  refine returnsInHanded_of_change_sized (C := Try.checked) own started (by kernel_rfl) Try.func6
    (ChangeSpec.witness6 (enc := enc) (C := Try.checked) false ⟨#[], #[.agg #[.int .i64 0, .int .i64 0, .slice none 0 0], .int .i64 0, .int .i64 0], []⟩ 8 (by kernel_rfl) (by kernel_rfl) (by kernel_rfl) (by kernel_rfl)) ?_
  intro W base args ds gs before hval0 hW hcnd hsz0 _
  have hsz : (DataW.weightsEach Try.prog (Try.f6.params.toList ++ Rows.confOrderSpec.plain.varTypes Try.prog) (ds ++ gs)).all (· ≤ reachBytes) = true := hsz0
  have hval : ∀ (j : Nat) t v, Try.f6.params[j]? = some t → args[j]? = some v → Value.okWide Try.prog W .any base t v := hval0
  have hW' := hW
  obtain ⟨p, q, hA0, hV, rfl, hfz, hnd⟩ := hW
  have hA : DataW.TrodAll enc Try.prog W 0 (fun _ => true) true Try.f6.params.toList args.toList ds p := hA0
  rw [Try.params6] at hA hval hsz
  obtain ⟨v0, vs0, d0, ds0, p0, q0, hargs, rfl, rfl, h0, r0⟩ := trodAll_cons hA
  obtain ⟨v1, vs1, d1, ds1, p1, q1, rfl, rfl, rfl, h1, r1⟩ := trodAll_cons r0
  obtain ⟨v2, vs2, d2, ds2, p2, q2, rfl, rfl, rfl, h2, r2⟩ := trodAll_cons r1
  obtain ⟨rfl, rfl, rfl⟩ := trodAll_nil r2
  obtain rfl : args = #[v0, v1, v2] := by cases args; simp_all
  obtain ⟨rfl, rfl⟩ := trodVars_none hV
  have k0 := h0
  have lt0 : ∀ x ∈ p0, x.block < W.heap.size := by obtain ⟨m, hm⟩ := k0; exact DataW.trod_lt m _ _ _ hm
  obtain ⟨cs0, rfl, hcs0⟩ := okWide_struct Try.underlying24 (hval 0 24 v0 rfl rfl)
  obtain ⟨x0, hr0, ok_0⟩ : RaT eS24 ok24 W cs0.toList := by
    obtain ⟨fuel, hf⟩ := h0
    exact ra24 H enc W fuel _ _ hf
  obtain ⟨a1, rfl, rfl, rfl, w1⟩ := open_int Try.underlying3 (hval 1 3 v1 rfl rfl) h1
  obtain ⟨a2, rfl, rfl, rfl, w2⟩ := open_int Try.underlying3 (hval 2 3 v2 rfl rfl) h2
  clear hA0 hval0 hsz0 hsz
  refine (boarderlaw13_ConfOrder.walk Pure.ConfOrder x0.f0 x0.f1 x0.f2 a1 a2 W ok_0 w1 w2 cs0 hr0).mono fun e W' ⟨he, bel⟩ => ?_
  subst he
  exact ⟨_, rfl, _, _, _, [], _, [], hW', trodAll_mk1 (shut_bool Try.underlying4 _), (trodAll_cons_mk (Below.trod laidOut (by kernel_rfl) (of_decide_eq_true (by kernel_rfl)) k0 bel lt0) (trodAll_cons_mk (shut_int Try.underlying3 w1) (trodAll_cons_mk (shut_int Try.underlying3 w2) trodAll_mk0))), rfl, bel.frame _, fun h => by cases h⟩
theorem over : Rows.confOrderRow.holds Try.pinned (OpenSpec.ofChange Rows.confOrderSpec) :=
  OpenClaim.holds_of_wide 6 Try.f6 rfl rfl rfl rfl rfl rfl rfl ⟨rfl, rfl, rfl, rfl, rfl⟩ rfl rfl rfl rfl rfl (by kernel_rfl) Try.func6 (by kernel_rfl)
    (of_decide_eq_true (by kernel_rfl)) (by unfold Func.isWrapper; first | (rw [if_pos (by decide +kernel)]; kernel_rfl) | (rw [if_neg (by decide +kernel)]; exact ⟨rfl, rfl⟩))
    (fun os started H enc _ => lifted os started H enc)
theorem proved : Rows.ConfOrderSaid := over
#print axioms proved
end Go.Proofs.Ytdcabfonjmeajaa.confOrder
