/- The given statement on the law AllocKeeps: for every input that can be read as data the law of the given program returns true and leaves its arguments as they were; no condition beyond the statement's own. -/
import Derived.Below
import Derived.Carry
import Derived.ChangeOld
import Derived.OpenShut
import Derived.ProofKit
import Derived.ShutString
import Derived.SizedLaws
import Derived.Test.YtdcabfonjmeajaaRows
import Derived.WalkKit
import Derived.Test.YtdcabfonjmeajaaAllocZ8
set_option linter.unusedVariables false
set_option linter.unusedSimpArgs false
namespace Go.Proofs.Ytdcabfonjmeajaa.PAlloc
open Go.RowKit Go.Proofs.YtdcabfonjmeajaaW.PrintWords Go.Proofs.YtdcabfonjmeajaaW.PrintLast Go.Proofs.YtdcabfonjmeajaaW.PrintMore Go.Proofs.Ytdcabfonjmeajaa.Abs
/-! ### boarderlaw15_AllocKeeps: function 12 -/
def boarderlaw15_AllocKeeps.l0 : Nat → List (S47) → ByteArray → Int → Int → Int → List (S41) → Int → Int × Bool → Int → Int → Int → Option (Bool)
  | 0, _, _, _, _, _, _, _, _, _, _, _ => none
  | k + 1, p1, p3, p5, p0_0, p0_1, p0_2, p2, b5, v6, v7, v8 => (if v8 < (p1.length : Int) then (if 0 ≤ v8 then (if (rd_T47 p1 v8).f3.toList = p3.toList then ((boarderref12_Holds.f ((rd_T47 p1 v8).f0) ((rd_T47 p1 v8).f1) ((rd_T47 p1 v8).f2) ((rd_T47 p1 v8).f3) p5).bind fun t16 => (if t16 = true then ((boarderref15_In.f k p0_0 p0_1 p0_2 p2 ((rd_T47 p1 v8).f0)).bind fun t17 => (if t17 = true then (boarderlaw15_AllocKeeps.l0 k p1 p3 p5 p0_0 p0_1 p0_2 p2 b5 (wrap64 (v6 + 1)) ((rd_T47 p1 v8).f0) (wrap64 (v8 + 1))) else (boarderlaw15_AllocKeeps.l0 k p1 p3 p5 p0_0 p0_1 p0_2 p2 b5 v6 v7 (wrap64 (v8 + 1))))) else (boarderlaw15_AllocKeeps.l0 k p1 p3 p5 p0_0 p0_1 p0_2 p2 b5 v6 v7 (wrap64 (v8 + 1))))) else (boarderlaw15_AllocKeeps.l0 k p1 p3 p5 p0_0 p0_1 p0_2 p2 b5 v6 v7 (wrap64 (v8 + 1)))) else none) else (if v6 = 0 then ((boarderlaw15_knows.f k).bind fun t15 => (some t15)) else (if (!b5.2) = true then (if v6 > 1 then ((boarderlaw15_knows.f k).bind fun t11 => (some t11)) else ((boarderref15_May.f k p0_0 p0_1 p0_2 p1 p2 p3 v7 p5).bind fun t9 => (if t9 = true then (some false) else ((boarderlaw15_knows.f k).bind fun t10 => (some t10))))) else (if b5.1 = v7 then (if v6 = 1 then (if v6 > 1 then ((boarderlaw15_knows.f k).bind fun t14 => (some t14)) else ((boarderref15_May.f k p0_0 p0_1 p0_2 p1 p2 p3 v7 p5).bind fun t12 => (if t12 = true then ((boarderlaw15_knows.f k).bind fun t13 => (some t13)) else (some false)))) else (some false)) else (some false)))))
def boarderlaw15_AllocKeeps.f (k : Nat) (p0_0 : Int) (p0_1 : Int) (p0_2 : List (S41)) (p1 : List (S47)) (p2 : Int) (p3 : ByteArray) (p4 : Int) (p5 : Int) : Option (Bool) := ((boarderlaw15_Great.f k p0_0 p0_1 p0_2 p1 p3).bind fun t1 => (if t1 = true then ((boarderlaw15_knows.f k).bind fun t2 => (some t2)) else ((boarderref15_Fair.f k p0_0 p0_1 p0_2 p1 p2 p3).bind fun t3 => (if (!t3) = true then ((boarderlaw15_knows.f k).bind fun t4 => (some t4)) else ((alloc_Choose.f k p0_0 p0_1 p0_2 p1 p2 p3 p4 p5).bind fun b5 => (boarderlaw15_AllocKeeps.l0 k p1 p3 p5 p0_0 p0_1 p0_2 p2 b5 0 0 0))))))
noncomputable def boarderlaw15_AllocKeeps.cx : Cx := ⟨Try.prog, tys, glo, 111, Try.f12, [.tmp 12]⟩
def boarderlaw15_AllocKeeps.Sl0 (r0 : Bool) (k : Nat) : Prop := ∀ (p1 : List (S47)) (p3 : ByteArray) (p5 : Int) (p0_0 : Int) (p0_1 : Int) (p0_2 : List (S41)) (p2 : Int) (b5 : Int × Bool) (v6 : Int) (v7 : Int) (v8 : Int), boarderlaw15_AllocKeeps.l0 k p1 p3 p5 p0_0 p0_1 p0_2 p2 b5 v6 v7 v8 = some r0 → Runs boarderlaw15_AllocKeeps.cx (Pur (.imm (.bool r0))) [.code (cP (bodyOf Try.f12) [1, 1, 1, 1, 1, 0, 1, 0, 0]), .inLoop (cP (bodyOf Try.f12) [1, 1, 1, 1, 1, 0, 1, 0, 0]), .inBlock 0, .code (cP (bodyOf Try.f12) [1, 1, 1, 1, 1, 1])] (overF none_ [(1, vS47 p1), (2, .imm (.int .i64 p2)), (3, .imm (.string p3)), (5, .imm (.int .i64 p5)), (6, .ptr [.imm (.int .i64 p0_0), .imm (.int .i64 p0_1), vS41 p0_2]), (13, .imm (.int .i64 b5.1)), (14, .imm (.bool b5.2)), (15, .imm (.int .i64 v6)), (16, .imm (.int .i64 v7)), (17, .imm (.int .i64 v8))]) []
def boarderlaw15_AllocKeeps.Sf (r0 : Bool) (k : Nat) : Prop := ∀ (p0_0 : Int) (p0_1 : Int) (p0_2 : List (S41)) (p1 : List (S47)) (p2 : Int) (p3 : ByteArray) (p4 : Int) (p5 : Int), boarderlaw15_AllocKeeps.f k p0_0 p0_1 p0_2 p1 p2 p3 p4 p5 = some r0 → Runs boarderlaw15_AllocKeeps.cx (Pur (.imm (.bool r0))) [.code (bodyOf Try.f12)] (frame0 [.agg [.imm (.int .i64 p0_0), .imm (.int .i64 p0_1), vS41 p0_2], vS47 p1, .imm (.int .i64 p2), .imm (.string p3), .imm (.int .i64 p4), .imm (.int .i64 p5)]) []
set_option maxHeartbeats 64000000 in
set_option maxRecDepth 100000 in
theorem boarderlaw15_AllocKeeps.seg (r0 : Bool) : (∀ k, boarderlaw15_AllocKeeps.Sl0 r0 k) ∧ ∀ k, (boarderlaw15_AllocKeeps.Sl0 r0 k) → boarderlaw15_AllocKeeps.Sf r0 k := by
  have hs : ∀ k, (boarderlaw15_AllocKeeps.Sl0 r0 k) → (boarderlaw15_AllocKeeps.Sl0 r0 (k + 1)) ∧ boarderlaw15_AllocKeeps.Sf r0 k := by
    intro k h
    have h_l0 := h
    refine ⟨?_, ?_⟩
    (intro p1 p3 p5 p0_0 p0_1 p0_2 p2 b5 v6 v7 v8 H; obtain ⟨b5_0, b5_1⟩ := b5; rw [boarderlaw15_AllocKeeps.l0] at H; try dsimp only at H)
    rotate_left
    (intro p0_0 p0_1 p0_2 p1 p2 p3 p4 p5 H; unfold boarderlaw15_AllocKeeps.f at H; try dsimp only at H)
    rotate_left
    repeat' (first
      | ((with_reducible have hJ : boarderlaw15_AllocKeeps.l0 _ _ _ _ _ _ _ _ _ _ _ _ = some _ := H); clear hJ; (with_reducible apply Runs.loop); (apply Runs.le [] (h_l0 _ _ _ _ _ _ _ _ _ _ _ H)))
      | ((with_reducible have hJ : boarderlaw15_AllocKeeps.l0 _ _ _ _ _ _ _ _ _ _ _ _ = some _ := H); clear hJ; (with_reducible apply Runs.inLoop); (apply Runs.le [] (h_l0 _ _ _ _ _ _ _ _ _ _ _ H)))
      | ((with_reducible replace H := some_ite H); obtain ⟨_, H⟩ := H)
      | (with_reducible replace H := some_bind_ H)
      | (with_reducible replace H := true_ite H)
      | (with_reducible replace H := false_ite H)
      | ((with_reducible have hb := bool_ite H); clear H; rcases hb with ⟨e_, H⟩ | ⟨e_, H⟩ <;> subst e_)
      | ((with_reducible have hb := bool_iteN H); clear H; rcases hb with ⟨e_, H⟩ | ⟨e_, H⟩ <;> subst e_)
      | ((first | with_reducible apply ROps.pure | with_reducible apply DOps.pure); (case hop => rfl); (case hw => rfl); (case hdst => rfl); (case hd => rfl))
      | (first | with_reducible apply ROps.nil | with_reducible apply DOps.nil)
      | (with_reducible apply Runs.seq)
      | (with_reducible apply Runs.region tysOK)
      | ((with_reducible apply Runs.drawn tysOK mixed); (case hB => kernel_rfl))
      | (with_reducible apply Runs.block)
      | (with_reducible apply Runs.skip)
      | (with_reducible apply Runs.inBlock)
      | (with_reducible apply Runs.scope)
      | (with_reducible apply Runs.inScope)
      | (with_reducible apply Runs.label)
      | ((with_reducible apply Runs.condT); (case ho => rfl))
      | ((with_reducible apply Runs.condF); (case ho => rfl))
      | ((with_reducible apply Runs.exit); (case he => rfl))
      | ((first | with_reducible apply ROps.cmp | with_reducible apply DOps.cmp); (case hop => exact cmpX); (case hw => rfl); (case hdst => rfl); (case hd => rfl); (all_goals (intro h; first | (replace H := ite_pos_ h H) | (replace H := ite_neg_ h H) | (replace H := ite_pos_ (Decidable.not_not.1 h) H) | ((try simp only [rd_T47, rdOf] at h); (try simp only [rd_T47, rdOf] at H); (rw [if_pos h] at H)) | ((try simp only [rd_T47, rdOf] at h); (try simp only [rd_T47, rdOf] at H); (rw [if_neg h] at H)) | contradiction | skip)))
      | ((first | with_reducible apply ROps.val | with_reducible apply DOps.val); (case hop => exact valX); (case hw => rfl); (case hdst => rfl); (case hd => rfl))
      | ((first | with_reducible apply ROps.idx | with_reducible apply DOps.idx); (case hop => rfl); (case hx => rfl); (case hi => rfl); (case he => rfl); (case hw => rfl); (case hdst => rfl); (case hd => rfl); (case h0 => first | assumption | omega); (case h1 => first | assumption | omega))
      | ((with_reducible apply ROps.box); (case hop => rfl); (case hx => rfl); (case hrf => rfl); (all_goals try rfl))
      | ((first | with_reducible apply ROps.off | with_reducible apply DOps.off); (case hw => rfl); (case hdst => rfl); (case hd => rfl))
      | ((with_reducible have hB : (alloc_Choose.f _ _ _ _ _ _ _ _ _).bind _ = some _ := H); clear hB; (replace H := bind_some' H); (obtain ⟨⟨t_0, t_1⟩, H1, H⟩ := H); (try dsimp only at H); (first | with_reducible apply ROps.call | with_reducible apply DOps.call); (case hop => rfl); (case hc => exact alloc_Choose.ok H1); (case ha => exact argsX); (case hw => rfl); (case hdst => rfl); (case hd => rfl))
      | ((with_reducible have hB : (boarderlaw15_Great.f _ _ _ _ _ _).bind _ = some _ := H); clear hB; (replace H := bind_some' H); (obtain ⟨t_, H1, H⟩ := H); (try dsimp only at H); (first | with_reducible apply ROps.call | with_reducible apply DOps.call); (case hop => rfl); (case hc => exact boarderlaw15_Great.ok H1); (case ha => exact argsX); (case hw => rfl); (case hdst => rfl); (case hd => rfl))
      | ((with_reducible have hB : (boarderlaw15_knows.f _).bind _ = some _ := H); clear hB; (replace H := bind_some' H); (obtain ⟨t_, H1, H⟩ := H); (try dsimp only at H); (first | with_reducible apply ROps.call | with_reducible apply DOps.call); (case hop => rfl); (case hc => exact boarderlaw15_knows.ok H1); (case ha => exact argsX); (case hw => rfl); (case hdst => rfl); (case hd => rfl))
      | ((with_reducible have hB : (boarderref12_Holds.f _ _ _ _ _).bind _ = some _ := H); clear hB; (replace H := bind_some' H); (obtain ⟨t_, H1, H⟩ := H); (try dsimp only at H); (first | with_reducible apply ROps.call | with_reducible apply DOps.call); (case hop => rfl); (case hc => exact boarderref12_Holds.ok H1); (case ha => exact argsX); (case hw => rfl); (case hdst => rfl); (case hd => rfl))
      | ((with_reducible have hB : (boarderref15_Fair.f _ _ _ _ _ _ _).bind _ = some _ := H); clear hB; (replace H := bind_some' H); (obtain ⟨t_, H1, H⟩ := H); (try dsimp only at H); (first | with_reducible apply ROps.call | with_reducible apply DOps.call); (case hop => rfl); (case hc => exact boarderref15_Fair.ok H1); (case ha => exact argsX); (case hw => rfl); (case hdst => rfl); (case hd => rfl))
      | ((with_reducible have hB : (boarderref15_In.f _ _ _ _ _ _).bind _ = some _ := H); clear hB; (replace H := bind_some' H); (obtain ⟨t_, H1, H⟩ := H); (try dsimp only at H); (first | with_reducible apply ROps.call | with_reducible apply DOps.call); (case hop => rfl); (case hc => exact boarderref15_In.ok H1); (case ha => exact argsX); (case hw => rfl); (case hdst => rfl); (case hd => rfl))
      | ((with_reducible have hB : (boarderref15_May.f _ _ _ _ _ _ _ _ _).bind _ = some _ := H); clear hB; (replace H := bind_some' H); (obtain ⟨t_, H1, H⟩ := H); (try dsimp only at H); (first | with_reducible apply ROps.call | with_reducible apply DOps.call); (case hop => rfl); (case hc => exact boarderref15_May.ok H1); (case ha => exact argsX); (case hw => rfl); (case hdst => rfl); (case hd => rfl))
      | ((with_reducible apply Runs.retP tysOK); (case hrs => rfl); (case h => rfl); (case hr => (cases H; exact refX)); (case hx => rfl))
      | exact leRX
      | (refine Runs.code_eq (p' := .seq _ _) rfl ?_)
      | (refine Runs.code_eq (p' := .region _ _ _) rfl ?_)
      | (refine Runs.code_eq (p' := .cond _ _ _) rfl ?_)
      | (refine Runs.code_eq (p' := .block _ _) rfl ?_)
      | (refine Runs.code_eq (p' := .loop _) rfl ?_)
      | (refine Runs.code_eq (p' := .exit _) rfl ?_)
      | (refine Runs.code_eq (p' := .ret) rfl ?_)
      | (refine Runs.code_eq (p' := .skip) rfl ?_)
      | (refine Runs.code_eq (p' := .label _) rfl ?_)
      | (refine Runs.code_eq (p' := .scope _) rfl ?_))
  refine ⟨fun k => ?_, fun k h => (hs k h).2⟩
  induction k with
  | zero => intro _ _ _ _ _ _ _ _ _ _ _ H; rw [boarderlaw15_AllocKeeps.l0] at H; cases H
  | succ k ih => exact (hs k ih).1
theorem boarderlaw15_AllocKeeps.ok {k : Nat} {p0_0 : Int} {p0_1 : Int} {p0_2 : List (S41)} {p1 : List (S47)} {p2 : Int} {p3 : ByteArray} {p4 : Int} {p5 : Int} {r0 : Bool} (H : boarderlaw15_AllocKeeps.f k p0_0 p0_1 p0_2 p1 p2 p3 p4 p5 = some r0) : CallOK Try.prog glo 12 [.agg [.imm (.int .i64 p0_0), .imm (.int .i64 p0_1), vS41 p0_2], vS47 p1, .imm (.int .i64 p2), .imm (.string p3), .imm (.int .i64 p4), .imm (.int .i64 p5)] (.imm (.bool r0)) :=
  CallOK.of (c := boarderlaw15_AllocKeeps.cx) (p := bodyOf Try.f12) Try.func12 rfl rfl rfl (Nat.le_of_ble_eq_true rfl) ((boarderlaw15_AllocKeeps.seg r0).2 k ((boarderlaw15_AllocKeeps.seg r0).1 k) p0_0 p0_1 p0_2 p1 p2 p3 p4 p5 H)
end Go.Proofs.Ytdcabfonjmeajaa.PAlloc
set_option linter.unusedVariables false
set_option linter.unusedSimpArgs false
namespace Go.Proofs.Ytdcabfonjmeajaa.PAlloc
open Go.RowKit Go.Proofs.YtdcabfonjmeajaaW.PrintWords Go.Proofs.YtdcabfonjmeajaaW.PrintLast Go.Proofs.YtdcabfonjmeajaaW.PrintMore Go.Proofs.Ytdcabfonjmeajaa.Abs
/-- What is to be shown of boarderlaw15_AllocKeeps, with no program in sight. -/
def boarderlaw15_AllocKeeps.Pure : Prop := ∀ (p0_0 : Int) (p0_1 : Int) (p0_2 : List (S41)) (p1 : List (S47)) (p2 : Int) (p3 : ByteArray) (p4 : Int) (p5 : Int), ok24 (⟨p0_0, p0_1, p0_2⟩ : S24) → (fun xs : List (S47) => xs.length ≤ maxLen ∧ ∀ x ∈ xs, ok47 x) p1 → (Lit.int .i64 p2).wf = true → p3.size ≤ 140737488351232 → (Lit.int .i64 p4).wf = true → (Lit.int .i64 p5).wf = true → ∃ k, boarderlaw15_AllocKeeps.f k p0_0 p0_1 p0_2 p1 p2 p3 p4 p5 = some true
theorem boarderlaw15_AllocKeeps.walk (P : boarderlaw15_AllocKeeps.Pure) (p0_0 : Int) (p0_1 : Int) (p0_2 : List (S41)) (p1 : List (S47)) (p2 : Int) (p3 : ByteArray) (p4 : Int) (p5 : Int) (w : World) (ok_0 : ok24 (⟨p0_0, p0_1, p0_2⟩ : S24)) (ok_1 : (fun xs : List (S47) => xs.length ≤ maxLen ∧ ∀ x ∈ xs, ok47 x) p1) (w2 : (Lit.int .i64 p2).wf = true) (w3 : p3.size ≤ 140737488351232) (w4 : (Lit.int .i64 p4).wf = true) (w5 : (Lit.int .i64 p5).wf = true) (cs0 : Array Value) (hr0 : RepL w (eS24 (⟨p0_0, p0_1, p0_2⟩ : S24)) cs0.toList) (A1 : Option Addr) (c1 : Nat) (hr1 : RepL w [vS47 p1] [.slice A1 p1.length c1]) :
    Calls Try.prog 12 #[.agg cs0, .slice A1 p1.length c1, .int .i64 p2, .string p3, .int .i64 p4, .int .i64 p5] w fun e w' => e = .returned (.bool true) ∧ Below w.heap.size w w' := by
  obtain ⟨k, h⟩ := P p0_0 p0_1 p0_2 p1 p2 p3 p4 p5 ok_0 ok_1 w2 w3 w4 w5
  exact (boarderlaw15_AllocKeeps.ok h).law (vs := [.agg cs0, .slice A1 p1.length c1, .int .i64 p2, .string p3, .int .i64 p4, .int .i64 p5]) (fun _ => .any _) rfl (reps_cons (arg_agg hr0) (reps_cons (arg_one hr1) (reps_cons (.imm _) (reps_cons (.imm _) (reps_cons (.imm _) (reps_cons (.imm _) reps_nil))))))
end Go.Proofs.Ytdcabfonjmeajaa.PAlloc
set_option linter.unusedVariables false
set_option linter.unusedSimpArgs false
namespace Go.Proofs.Ytdcabfonjmeajaa.Pure
open Go.RowKit Go.Proofs.YtdcabfonjmeajaaW.PrintWords Go.Proofs.YtdcabfonjmeajaaW.PrintLast Go.Proofs.YtdcabfonjmeajaaW.PrintMore Go.Proofs.Ytdcabfonjmeajaa.PAlloc

theorem keep_fold (P : Le → Bool) : ∀ (l : List Le) (s : Int × Int), l.foldl (fun s l => if P l = true then (s.1 + 1, l.f0) else s) s = (s.1 + ((l.filter P).length : Int), ((l.filter P).map (·.f0)).getLastD s.2)
  | [], s => by simp
  | x :: l, s => by
    rw [List.foldl_cons, keep_fold P l]
    by_cases c : P x = true
    · rw [if_pos c, List.filter_cons_of_pos c]
      simp only [List.length_cons, List.map_cons]
      refine Prod.ext (by simp only; omega) ?_
      cases (l.filter P).map (·.f0) <;> simp [List.getLastD]
    · rw [if_neg c, List.filter_cons_of_neg c]
theorem AllocKeeps : boarderlaw15_AllocKeeps.Pure := by
  intro a b nets t n key want now _ ht _ _ _ _
  refine Ev.rounds (great15 ht.1 fun h hs hk => ?_)
  have hk2 : key.size ≤ maxLen := Nat.le_trans hk (by decide)
  have hl : t.length ≤ 500 := hs.1
  refine Ev.bind (boarderref15_Fair_s a b nets h t hs n key) (Ev.ite' (fun _ => knows15) (fun hf => ?_))
  have hf : fairA a b nets t n key = true := by simpa using hf
  have hT := (fairA_iff.1 hf).2.1
  have hE : heldA a b nets t n key now = (t.filter (fun l => decide (l.f3.toList = key.toList) && (holdsB l now && inA a b nets n l.f0))).map (·.f0) := by
    unfold heldA ofL
    rw [List.filter_filter]
    congr 2
    funext l
    rw [Bool.and_comm, Bool.and_comm (inA a b nets n l.f0)]
  refine Ev.bind (alloc_Choose_s a b nets h t hs n key hk2 want now) ?_
  refine loopL (σ := Int × Int) t (fun s l => if (decide (l.f3.toList = key.toList) && (holdsB l now && inA a b nets n l.f0)) = true then (s.1 + 1, l.f0) else s) (fun i s => 0 ≤ s.1 ∧ s.1 ≤ (i : Int))
    (L := fun k i s => boarderlaw15_AllocKeeps.l0 k t key now a b nets n (ansA (chooseA a b nets t n key want now)) s.1 s.2 i) (s := (0, 0)) ⟨by simp, by simp⟩ (fun i hi s hp => ?_) (fun i hi s hp h3 => ?_) (fun _ => ?_)
  · split
    · exact ⟨by simp only; omega, by simp only; omega⟩
    · exact ⟨by omega, by omega⟩
  · have eT : rd_T47 t (i : Int) = t[i] := rd_get hi
    refine Ev.step (fun k => by show boarderlaw15_AllocKeeps.l0 (k + 1) _ _ _ _ _ _ _ _ _ _ _ = _; rw [boarderlaw15_AllocKeeps.l0, if_pos (by omega), if_pos (by omega), eT, wrap_next hi (by omega), show wrap64 (s.1 + 1) = s.1 + 1 by unfold wrap64; omega]) ?_
    refine Ev.ite' (fun c1 => ?_) (fun c1 => by simpa [c1] using h3)
    refine Ev.bind (Ev.congr (fun _ => boarderref12_Holds_s t[i] now) (Ev.now _)) (Ev.ite' (fun c2 => ?_) (fun c2 => by simpa [c1, c2] using h3))
    exact Ev.bind (boarderref15_In_s a b nets h n _) (Ev.ite' (fun c3 => by simpa [c1, c2, c3] using h3) (fun c3 => by simpa [c1, c2, c3] using h3))
  · rw [keep_fold, ← hE]
    have hlen : ((t.filter (fun l => decide (l.f3.toList = key.toList) && (holdsB l now && inA a b nets n l.f0))).length : Int) = ((heldA a b nets t n key now).length : Int) := by rw [hE, List.length_map]
    rw [hlen]
    simp only [Int.zero_add]
    refine Ev.step (fun k => by show boarderlaw15_AllocKeeps.l0 (k + 1) _ _ _ _ _ _ _ _ _ _ _ = _; rw [boarderlaw15_AllocKeeps.l0, if_neg (by omega)]) ?_
    refine Ev.ite' (fun _ => knows15) (fun c0 => ?_)
    have hne : heldA a b nets t n key now ≠ [] := fun e => c0 (by rw [e]; rfl)
    have hch : chooseA a b nets t n key want now = (heldA a b nets t n key now).find? (fun x => mayA a b nets t n key x now) := by
      unfold chooseA tryA
      rw [if_pos hf, if_neg hne]
    cases hc : chooseA a b nets t n key want now with
    | none =>
      refine Ev.pos (by simp [ansA]) (Ev.ite' (fun _ => knows15) (fun c1 => ?_))
      refine Ev.bind (boarderref15_May_s a b nets h t hs n key _ now) (Ev.neg ?_ knows15)
      rw [hch] at hc
      have h1 := List.find?_eq_none.1 hc
      refine h1 _ ?_
      revert hne
      cases heldA a b nets t n key now with
      | nil => intro e; exact absurd rfl e
      | cons y l => intro _; rw [List.getLastD_cons]; exact List.getLastD_mem_cons ..
    | some x =>
      obtain ⟨hm, _⟩ := choose_some hc
      rw [hch] at hc
      have hx := held_one hT hm (List.mem_of_find?_eq_some hc)
      rw [hx]
      refine Ev.neg (by simp [ansA]) (Ev.pos rfl (Ev.pos rfl (Ev.neg (by simp) ?_)))
      exact Ev.bind (boarderref15_May_s a b nets h t hs n key _ now) (Ev.pos hm knows15)

end Go.Proofs.Ytdcabfonjmeajaa.Pure
namespace Go.Proofs.Ytdcabfonjmeajaa.allocKeeps
open Go.Proofs.Ytdcabfonjmeajaa.PAlloc Go.Proofs.Ytdcabfonjmeajaa.Abs Go.ChangeShapes Go.WideShapes Go.ChangeAt Go.RowKit
open Go.ChangeMaps (open_string shut_string)
open Go.Proofs.YtdcabfonjmeajaaW.PrintWords
set_option linter.unusedVariables false
set_option linter.unusedSimpArgs false
theorem own : ownKnob Try.prog.godebug = none := by kernel_rfl
theorem laidOut : laidOutB Try.prog = true := by kernel_rfl
set_option maxRecDepth 100000 in
theorem lifted (os : Os) (started : os.Started) (H : Type) (enc : TypeId × Value → H) :
    ReturnsInHanded {} Try.checked os 12 .any (Rows.allocKeepsSpec.pre6 enc Try.prog Try.f12 Rows.allocKeepsRow.domain false) (Rows.allocKeepsSpec.post enc Try.prog Try.f12 false true false false) := by
  refine returnsInHanded_of_change_sized (C := Try.checked) own started (by kernel_rfl) Try.func12
    (ChangeSpec.witness6 (enc := enc) (C := Try.checked) false ⟨#[], #[.agg #[.int .i64 0, .int .i64 0, .slice none 0 0], .slice none 0 0, .int .i64 0, .string ByteArray.empty, .int .i64 0, .int .i64 0], []⟩ 8 (by kernel_rfl) (by kernel_rfl) (by kernel_rfl) (by kernel_rfl)) ?_
  intro W base args ds gs before hval0 hW hcnd hsz0 _
  have hsz : (DataW.weightsEach Try.prog (Try.f12.params.toList ++ Rows.allocKeepsSpec.plain.varTypes Try.prog) (ds ++ gs)).all (· ≤ reachBytes) = true := hsz0
  have hval : ∀ (j : Nat) t v, Try.f12.params[j]? = some t → args[j]? = some v → Value.okWide Try.prog W .any base t v := hval0
  have hW' := hW
  obtain ⟨p, q, hA0, hV, rfl, hfz, hnd⟩ := hW
  have hA : DataW.TrodAll enc Try.prog W 0 (fun _ => true) true Try.f12.params.toList args.toList ds p := hA0
  rw [Try.params12] at hA hval hsz
  obtain ⟨v0, vs0, d0, ds0, p0, q0, hargs, rfl, rfl, h0, r0⟩ := trodAll_cons hA
  obtain ⟨v1, vs1, d1, ds1, p1, q1, rfl, rfl, rfl, h1, r1⟩ := trodAll_cons r0
  obtain ⟨v2, vs2, d2, ds2, p2, q2, rfl, rfl, rfl, h2, r2⟩ := trodAll_cons r1
  obtain ⟨v3, vs3, d3, ds3, p3, q3, rfl, rfl, rfl, h3, r3⟩ := trodAll_cons r2
  obtain ⟨v4, vs4, d4, ds4, p4, q4, rfl, rfl, rfl, h4, r4⟩ := trodAll_cons r3
  obtain ⟨v5, vs5, d5, ds5, p5, q5, rfl, rfl, rfl, h5, r5⟩ := trodAll_cons r4
  obtain ⟨rfl, rfl, rfl⟩ := trodAll_nil r5
  obtain rfl : args = #[v0, v1, v2, v3, v4, v5] := by cases args; simp_all
  obtain ⟨rfl, rfl⟩ := trodVars_none hV
  have k0 := h0
  have lt0 : ∀ x ∈ p0, x.block < W.heap.size := by obtain ⟨m, hm⟩ := k0; exact DataW.trod_lt m _ _ _ hm
  obtain ⟨cs0, rfl, hcs0⟩ := okWide_struct Try.underlying24 (hval 0 24 v0 rfl rfl)
  obtain ⟨x0, hr0, ok_0⟩ : RaT eS24 ok24 W cs0.toList := by
    obtain ⟨fuel, hf⟩ := h0
    exact ra24 H enc W fuel _ _ hf
  have k1 := h1
  have lt1 : ∀ x ∈ p1, x.block < W.heap.size := by obtain ⟨m, hm⟩ := k1; exact DataW.trod_lt m _ _ _ hm
  obtain ⟨A1, n1, c1, rfl⟩ := okWide_slice Try.underlying42 (hval 1 42 v1 rfl rfl)
  obtain ⟨l1, hr1, ok_1⟩ : RaT (fun l : List (S47) => [vS47 l]) (fun xs : List (S47) => xs.length ≤ maxLen ∧ ∀ x ∈ xs, ok47 x) W [.slice A1 n1 c1] := by
    obtain ⟨fuel, hf⟩ := h1
    exact (ra_slice (d := eS47) (sz := 4) (z := z47) Try.underlying42 (by kernel_rfl) (fun _ => rfl) ra47) H enc W fuel _ _ hf
  obtain rfl : n1 = l1.length := (arg_one hr1).sl_len
  obtain ⟨a2, rfl, rfl, rfl, w2⟩ := open_int Try.underlying3 (hval 2 3 v2 rfl rfl) h2
  obtain ⟨a3, rfl, rfl, rfl, y3⟩ := open_string Try.underlying9 (hval 3 9 v3 rfl rfl) h3
  have w3 : a3.size ≤ 140737488351232 := by
    have z := sized_string hsz (j := 3) (t := 9) rfl rfl
    rw [Array.length_toList] at z
    exact z
  obtain ⟨a4, rfl, rfl, rfl, w4⟩ := open_int Try.underlying3 (hval 4 3 v4 rfl rfl) h4
  obtain ⟨a5, rfl, rfl, rfl, w5⟩ := open_int Try.underlying3 (hval 5 3 v5 rfl rfl) h5
  clear hA0 hval0 hsz0 hsz
  refine (boarderlaw15_AllocKeeps.walk Pure.AllocKeeps x0.f0 x0.f1 x0.f2 l1 a2 a3 a4 a5 W ok_0 ok_1 w2 w3 w4 w5 cs0 hr0 A1 c1 hr1).mono fun e W' ⟨he, bel⟩ => ?_
  subst he
  exact ⟨_, rfl, _, _, _, [], _, [], hW', trodAll_mk1 (shut_bool Try.underlying4 _), (trodAll_cons_mk (Below.trod laidOut (by kernel_rfl) (of_decide_eq_true (by kernel_rfl)) k0 bel lt0) (trodAll_cons_mk (Below.trod laidOut (by kernel_rfl) (of_decide_eq_true (by kernel_rfl)) k1 bel lt1) (trodAll_cons_mk (shut_int Try.underlying3 w2) (trodAll_cons_mk (shut_string Try.underlying9 y3) (trodAll_cons_mk (shut_int Try.underlying3 w4) (trodAll_cons_mk (shut_int Try.underlying3 w5) trodAll_mk0)))))), rfl, bel.frame _, fun h => by cases h⟩
theorem over : Rows.allocKeepsRow.holds Try.pinned (OpenSpec.ofChange Rows.allocKeepsSpec) :=
  OpenClaim.holds_of_wide 12 Try.f12 rfl rfl rfl rfl rfl rfl rfl ⟨rfl, rfl, rfl, rfl, rfl⟩ rfl rfl rfl rfl rfl (by kernel_rfl) Try.func12 (by kernel_rfl)
    (of_decide_eq_true (by kernel_rfl)) (by unfold Func.isWrapper; first | (rw [if_pos (by decide +kernel)]; kernel_rfl) | (rw [if_neg (by decide +kernel)]; exact ⟨rfl, rfl⟩))
    (fun os started H enc _ => lifted os started H enc)
theorem proved : Rows.AllocKeepsSaid := over
#print axioms proved
end Go.Proofs.Ytdcabfonjmeajaa.allocKeeps
