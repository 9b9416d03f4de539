/- The given statement on the law StatsBounds: for every input that can be read as data the law of the given program returns true and leaves its arguments as they were; no condition beyond the statement's own. -/
import Derived.Below
import Derived.Carry
import Derived.ChangeOld
import Derived.OpenShut
import Derived.ProofKit
import Derived.ShutString
import Derived.SizedLaws
import Derived.Test.YtopbcamlagdieaaRows
import Derived.WalkKit
import Derived.Test.YtopbcamlagdieaaStatsZ7
set_option linter.unusedVariables false
set_option linter.unusedSimpArgs false
namespace Go.Proofs.Ytopbcamlagdieaa.PStats
open Go.RowKit Go.Proofs.YtopbcamlagdieaaW.PrintWords Go.Proofs.YtopbcamlagdieaaW.PrintLast Go.Proofs.YtopbcamlagdieaaW.PrintMore Go.Proofs.Ytopbcamlagdieaa.Abs
/-! ### boarderlaw26_StatsBounds: function 4 -/
def boarderlaw26_StatsBounds.l0 : Nat → List (S25) × Int → List (S68) → Int → Option (Bool)
  | 0, _, _, _ => none
  | k + 1, b3, p1, v4 => (if v4 < (b3.1.length : Int) then (if 0 ≤ v4 then (if (rd_T25 b3.1 v4).f6 < 0 then (some false) else (if (rd_T25 b3.1 v4).f6 > (rd_T25 b3.1 v4).f2 then (some false) else (boarderlaw26_StatsBounds.l0 k b3 p1 (wrap64 (v4 + 1))))) else none) else ((stats_Sum.f k b3.1).bind fun b5 => (if (wrap64 (b5.2.2.2.2.1 + b5.2.2.2.2.2.1)) ≤ (p1.length : Int) then (if b5.2.1 = (b3.1.length : Int) then ((boarderlaw26_knows.f k).bind fun t6 => (some t6)) else (some false)) else (some false))))
def boarderlaw26_StatsBounds.f (k : Nat) (p0_0 : Int) (p0_1 : Int) (p0_2 : List (S56)) (p1 : List (S68)) (p2 : Int) : Option (Bool) := ((boarderlaw26_great.f k p0_0 p0_1 p0_2 p1).bind fun t1 => (if t1 = true then ((boarderlaw26_knows.f k).bind fun t2 => (some t2)) else ((stats_Count.f k p0_0 p0_1 p0_2 p1 p2).bind fun b3 => (if b3.2 = 0 then (boarderlaw26_StatsBounds.l0 k b3 p1 0) else (if (b3.1.length : Int) = 0 then ((boarderlaw26_knows.f k).bind fun t7 => (some t7)) else (some false))))))
noncomputable def boarderlaw26_StatsBounds.cx : Cx := ⟨Try.prog, tys, glo, 75, Try.f4, [.tmp 6], 0⟩
def boarderlaw26_StatsBounds.Sl0 (r0 : Bool) (k : Nat) : Prop := ∀ (b3 : List (S25) × Int) (p1 : List (S68)) (v4 : Int), boarderlaw26_StatsBounds.l0 k b3 p1 v4 = some r0 → Runs boarderlaw26_StatsBounds.cx (Pur (.imm (.bool r0))) [.code (cP (bodyOf Try.f4) [1, 1, 1, 1, 0, 1, 0, 0]), .inLoop (cP (bodyOf Try.f4) [1, 1, 1, 1, 0, 1, 0, 0]), .inBlock 0, .code (cP (bodyOf Try.f4) [1, 1, 1, 1, 1])] (overF none_ [(1, vS68 p1), (7, vS25 (b3.1)), (9, .imm (.int .i64 v4))]) []
def boarderlaw26_StatsBounds.Sf (r0 : Bool) (k : Nat) : Prop := ∀ (p0_0 : Int) (p0_1 : Int) (p0_2 : List (S56)) (p1 : List (S68)) (p2 : Int), boarderlaw26_StatsBounds.f k p0_0 p0_1 p0_2 p1 p2 = some r0 → Runs boarderlaw26_StatsBounds.cx (Pur (.imm (.bool r0))) [.code (bodyOf Try.f4)] (frame0 [.agg [.imm (.int .i64 p0_0), .imm (.int .i64 p0_1), vS56 p0_2], vS68 p1, .imm (.int .i64 p2)]) []
set_option maxHeartbeats 64000000 in
set_option maxRecDepth 100000 in
theorem boarderlaw26_StatsBounds.seg (r0 : Bool) : (∀ k, boarderlaw26_StatsBounds.Sl0 r0 k) ∧ ∀ k, (boarderlaw26_StatsBounds.Sl0 r0 k) → boarderlaw26_StatsBounds.Sf r0 k := by
  have hs : ∀ k, (boarderlaw26_StatsBounds.Sl0 r0 k) → (boarderlaw26_StatsBounds.Sl0 r0 (k + 1)) ∧ boarderlaw26_StatsBounds.Sf r0 k := by
    intro k h
    have h_l0 := h
    refine ⟨?_, ?_⟩
    (intro b3 p1 v4 H; obtain ⟨b3_0, b3_1⟩ := b3; rw [boarderlaw26_StatsBounds.l0] at H; try dsimp only at H)
    rotate_left
    (intro p0_0 p0_1 p0_2 p1 p2 H; unfold boarderlaw26_StatsBounds.f at H; try dsimp only at H)
    rotate_left
    repeat' (first
      | ((with_reducible have hJ : boarderlaw26_StatsBounds.l0 _ _ _ _ = some _ := H); clear hJ; (with_reducible apply Runs.loop); (apply Runs.le [] (h_l0 _ _ _ H)))
      | ((with_reducible have hJ : boarderlaw26_StatsBounds.l0 _ _ _ _ = some _ := H); clear hJ; (with_reducible apply Runs.inLoop); (apply Runs.le [] (h_l0 _ _ _ H)))
      | ((with_reducible replace H := some_ite H); obtain ⟨_, H⟩ := H)
      | (with_reducible replace H := some_bind_ H)
      | (with_reducible replace H := true_ite H)
      | (with_reducible replace H := false_ite H)
      | ((with_reducible have hb := bool_ite H); clear H; rcases hb with ⟨e_, H⟩ | ⟨e_, H⟩ <;> subst e_)
      | ((first | with_reducible apply ROps.pure | with_reducible apply DOps.pure); (case hop => rfl); (case hw => rfl); (case hdst => rfl); (case hd => rfl))
      | (first | with_reducible apply ROps.nil | with_reducible apply DOps.nil)
      | (with_reducible apply Runs.seq)
      | (with_reducible apply Runs.region tysOK)
      | ((with_reducible apply Runs.drawnE [] tysOK mixed); (case hB => kernel_rfl))
      | (with_reducible apply Runs.block)
      | (with_reducible apply Runs.skip)
      | (with_reducible apply Runs.inBlock)
      | (with_reducible apply Runs.scope)
      | (with_reducible apply Runs.inScope)
      | (with_reducible apply Runs.label)
      | ((with_reducible apply Runs.condT); (case ho => rfl))
      | ((with_reducible apply Runs.condF); (case ho => rfl))
      | ((with_reducible apply Runs.exit); (case he => rfl))
      | ((with_reducible apply ROps.store); (case hop => rfl); (case hp => rfl); (case hR => rfl); (case hc => rfl); (case hl => first | (dsimp only [setR_one, setR, Nat.beq, cond]; done) | (dsimp only [setR_one, setR, Nat.beq, cond]; rfl) | rfl); (case hl' => first | (dsimp only [List.take, List.drop, List.append, List.nil_append, List.cons_append, List.map, List.length, Nat.add]; rfl) | rfl); (all_goals try rfl))
      | ((first | with_reducible apply ROps.cmp | with_reducible apply DOps.cmp); (case hop => exact cmpX); (case hw => rfl); (case hdst => rfl); (case hd => rfl); (all_goals (intro h; first | (replace H := ite_pos_ h H) | (replace H := ite_neg_ h H) | (replace H := ite_pos_ (Decidable.not_not.1 h) H) | ((try simp only [rd_T25, rdOf] at h); (try simp only [rd_T25, rdOf] at H); (rw [if_pos h] at H)) | ((try simp only [rd_T25, rdOf] at h); (try simp only [rd_T25, rdOf] at H); (rw [if_neg h] at H)) | contradiction | skip)))
      | ((first | with_reducible apply ROps.val | with_reducible apply DOps.val); (case hop => exact valX); (case hw => rfl); (case hdst => rfl); (case hd => rfl))
      | ((first | with_reducible apply ROps.eqS | with_reducible apply DOps.eqS | with_reducible apply ROps.neS | with_reducible apply DOps.neS); (case hop => rfl); (case ht => rfl); (case hx => rfl); (case hy => rfl); (case hl => rfl); (case hr => rfl); (case hw => rfl); (case hdst => rfl); (case hd => rfl); (all_goals (intro h; first | (replace H := ite_posF H h) | (replace H := ite_negF H h) | (dsimp only [eqP, eqA] at h) | skip)))
      | ((first | with_reducible apply ROps.idx | with_reducible apply DOps.idx); (case hop => rfl); (case hx => rfl); (case hi => rfl); (case he => rfl); (case hw => rfl); (case hdst => rfl); (case hd => rfl); (case h0 => first | assumption | omega); (case h1 => first | assumption | omega))
      | ((with_reducible apply ROps.alloc); (case hop => rfl); (all_goals try rfl))
      | ((with_reducible apply ROps.box); (case hop => rfl); (case hx => rfl); (case hrf => rfl); (all_goals try rfl))
      | ((first | with_reducible apply ROps.off | with_reducible apply DOps.off); (case hw => rfl); (case hdst => rfl); (case hd => rfl))
      | ((with_reducible have hB : (boarderlaw26_great.f _ _ _ _ _).bind _ = some _ := H); clear hB; (replace H := bind_some' H); (obtain ⟨t_, H1, H⟩ := H); (try dsimp only at H); (first | with_reducible apply ROps.call | with_reducible apply DOps.call); (case hop => rfl); (case hc => exact boarderlaw26_great.ok H1); (case ha => exact argsX); (case hw => rfl); (case hdst => rfl); (case hd => rfl))
      | ((with_reducible have hB : (boarderlaw26_knows.f _).bind _ = some _ := H); clear hB; (replace H := bind_some' H); (obtain ⟨t_, H1, H⟩ := H); (try dsimp only at H); (first | with_reducible apply ROps.call | with_reducible apply DOps.call); (case hop => rfl); (case hc => exact boarderlaw26_knows.ok H1); (case ha => exact argsX); (case hw => rfl); (case hdst => rfl); (case hd => rfl))
      | ((with_reducible have hB : (stats_Count.f _ _ _ _ _ _).bind _ = some _ := H); clear hB; (replace H := bind_some' H); (obtain ⟨⟨t_0, t_1⟩, H1, H⟩ := H); (try dsimp only at H); (first | with_reducible apply ROps.call | with_reducible apply DOps.call); (case hop => rfl); (case hc => exact stats_Count.ok H1); (case ha => exact argsX); (case hw => rfl); (case hdst => rfl); (case hd => rfl))
      | ((with_reducible have hB : (stats_Sum.f _ _).bind _ = some _ := H); clear hB; (replace H := bind_some' H); (obtain ⟨⟨t_0, t_1, t_2, t_3, t_4, t_5, t_6⟩, H1, H⟩ := H); (try dsimp only at H); (first | with_reducible apply ROps.call | with_reducible apply DOps.call); (case hop => rfl); (case hc => exact stats_Sum.ok H1); (case ha => exact argsX); (case hw => rfl); (case hdst => rfl); (case hd => rfl))
      | ((with_reducible apply Runs.retP tysOK); (case hrs => rfl); (case h => rfl); (case hr => (cases H; exact refX)); (case hx => rfl))
      | exact leRX
      | (refine Runs.code_eq (p' := .seq _ _) rfl ?_)
      | (refine Runs.code_eq (p' := .region _ _ _) rfl ?_)
      | (refine Runs.code_eq (p' := .cond _ _ _) rfl ?_)
      | (refine Runs.code_eq (p' := .block _ _) rfl ?_)
      | (refine Runs.code_eq (p' := .loop _) rfl ?_)
      | (refine Runs.code_eq (p' := .exit _) rfl ?_)
      | (refine Runs.code_eq (p' := .ret) rfl ?_)
      | (refine Runs.code_eq (p' := .skip) rfl ?_)
      | (refine Runs.code_eq (p' := .label _) rfl ?_)
      | (refine Runs.code_eq (p' := .scope _) rfl ?_))
  refine ⟨fun k => ?_, fun k h => (hs k h).2⟩
  induction k with
  | zero => intro _ _ _ H; rw [boarderlaw26_StatsBounds.l0] at H; cases H
  | succ k ih => exact (hs k ih).1
theorem boarderlaw26_StatsBounds.ok {k : Nat} {p0_0 : Int} {p0_1 : Int} {p0_2 : List (S56)} {p1 : List (S68)} {p2 : Int} {r0 : Bool} (H : boarderlaw26_StatsBounds.f k p0_0 p0_1 p0_2 p1 p2 = some r0) : CallOK Try.prog glo 4 [.agg [.imm (.int .i64 p0_0), .imm (.int .i64 p0_1), vS56 p0_2], vS68 p1, .imm (.int .i64 p2)] (.imm (.bool r0)) :=
  CallOK.of (c := boarderlaw26_StatsBounds.cx) (p := bodyOf Try.f4) Try.func4 rfl rfl rfl (Nat.le_of_ble_eq_true rfl) rfl ((boarderlaw26_StatsBounds.seg r0).2 k ((boarderlaw26_StatsBounds.seg r0).1 k) p0_0 p0_1 p0_2 p1 p2 H)
end Go.Proofs.Ytopbcamlagdieaa.PStats
set_option linter.unusedVariables false
set_option linter.unusedSimpArgs false
namespace Go.Proofs.Ytopbcamlagdieaa.PStats
open Go.RowKit Go.Proofs.YtopbcamlagdieaaW.PrintWords Go.Proofs.YtopbcamlagdieaaW.PrintLast Go.Proofs.YtopbcamlagdieaaW.PrintMore Go.Proofs.Ytopbcamlagdieaa.Abs
/-- What is to be shown of boarderlaw26_StatsBounds, with no program in sight. -/
def boarderlaw26_StatsBounds.Pure : Prop := ∀ (p0_0 : Int) (p0_1 : Int) (p0_2 : List (S56)) (p1 : List (S68)) (p2 : Int), ok34 (⟨p0_0, p0_1, p0_2⟩ : S34) → (fun xs : List (S68) => xs.length ≤ maxLen ∧ ∀ x ∈ xs, ok68 x) p1 → (Lit.int .i64 p2).wf = true → ∃ k, boarderlaw26_StatsBounds.f k p0_0 p0_1 p0_2 p1 p2 = some true
theorem boarderlaw26_StatsBounds.walk (P : boarderlaw26_StatsBounds.Pure) (p0_0 : Int) (p0_1 : Int) (p0_2 : List (S56)) (p1 : List (S68)) (p2 : Int) (w : World) (ok_0 : ok34 (⟨p0_0, p0_1, p0_2⟩ : S34)) (ok_1 : (fun xs : List (S68) => xs.length ≤ maxLen ∧ ∀ x ∈ xs, ok68 x) p1) (w2 : (Lit.int .i64 p2).wf = true) (cs0 : Array Value) (hr0 : RepL w (eS34 (⟨p0_0, p0_1, p0_2⟩ : S34)) cs0.toList) (A1 : Option Addr) (c1 : Nat) (hr1 : RepL w [vS68 p1] [.slice A1 p1.length c1]) :
    Calls Try.prog 4 #[.agg cs0, .slice A1 p1.length c1, .int .i64 p2] w fun e w' => e = .returned (.bool true) ∧ Below w.heap.size w w' := by
  obtain ⟨k, h⟩ := P p0_0 p0_1 p0_2 p1 p2 ok_0 ok_1 w2
  exact (boarderlaw26_StatsBounds.ok h).law (vs := [.agg cs0, .slice A1 p1.length c1, .int .i64 p2]) (fun _ => .any _) rfl (reps_cons (arg_agg hr0) (reps_cons (arg_one hr1) (reps_cons (.imm _) reps_nil)))
end Go.Proofs.Ytopbcamlagdieaa.PStats
set_option linter.unusedVariables false
set_option linter.unusedSimpArgs false
namespace Go.Proofs.Ytopbcamlagdieaa.PStats
open Go.RowKit Go.Proofs.YtopbcamlagdieaaW.PrintWords Go.Proofs.YtopbcamlagdieaaW.PrintLast Go.Proofs.YtopbcamlagdieaaW.PrintMore

/-! ### stats.Sum -/
theorem stats_add_m1_s (l : List Int) (hl : l.length ≤ 1000) (a b c d e f g : Int) : Ev (fun k => stats_add_m1.f k l a b c d e f g) (sumW l d) := by
  unfold sumW
  refine loopL l (fun n x => wrap64 (n + x)) (fun _ _ => True) (L := fun k i s => stats_add_m1.l0 k l s i) trivial (fun _ _ _ _ => trivial) (fun i hi s _ h3 => ?_) (fun _ => ?_)
  · have eT : rdOf 0 l (i : Int) = l[i] := rd_get hi
    exact Ev.step (fun k => by show stats_add_m1.l0 (k + 1) _ _ _ = _; rw [stats_add_m1.l0, if_pos (by omega), if_pos (by omega), eT, wrap_next hi (by omega)]) h3
  · exact Ev.step (fun k => by show stats_add_m1.l0 (k + 1) _ _ _ = _; rw [stats_add_m1.l0, if_neg (by omega)]) Ev.some'
theorem stats_add_m2_s (l : List Int) (hl : l.length ≤ 1000) (a b c d e f g : Int) : Ev (fun k => stats_add_m2.f k l a b c d e f g) (sumW l e) := by
  unfold sumW
  refine loopL l (fun n x => wrap64 (n + x)) (fun _ _ => True) (L := fun k i s => stats_add_m2.l0 k l s i) trivial (fun _ _ _ _ => trivial) (fun i hi s _ h3 => ?_) (fun _ => ?_)
  · have eT : rdOf 0 l (i : Int) = l[i] := rd_get hi
    exact Ev.step (fun k => by show stats_add_m2.l0 (k + 1) _ _ _ = _; rw [stats_add_m2.l0, if_pos (by omega), if_pos (by omega), eT, wrap_next hi (by omega)]) h3
  · exact Ev.step (fun k => by show stats_add_m2.l0 (k + 1) _ _ _ = _; rw [stats_add_m2.l0, if_neg (by omega)]) Ev.some'
theorem stats_add_m3_s (l : List Int) (hl : l.length ≤ 1000) (a b c d e f g : Int) : Ev (fun k => stats_add_m3.f k l a b c d e f g) (sumW l f) := by
  unfold sumW
  refine loopL l (fun n x => wrap64 (n + x)) (fun _ _ => True) (L := fun k i s => stats_add_m3.l0 k l s i) trivial (fun _ _ _ _ => trivial) (fun i hi s _ h3 => ?_) (fun _ => ?_)
  · have eT : rdOf 0 l (i : Int) = l[i] := rd_get hi
    exact Ev.step (fun k => by show stats_add_m3.l0 (k + 1) _ _ _ = _; rw [stats_add_m3.l0, if_pos (by omega), if_pos (by omega), eT, wrap_next hi (by omega)]) h3
  · exact Ev.step (fun k => by show stats_add_m3.l0 (k + 1) _ _ _ = _; rw [stats_add_m3.l0, if_neg (by omega)]) Ev.some'
theorem stats_add_m4_s (l : List Int) (hl : l.length ≤ 1000) (a b c d e f g : Int) : Ev (fun k => stats_add_m4.f k l a b c d e f g) (sumW l g) := by
  unfold sumW
  refine loopL l (fun n x => wrap64 (n + x)) (fun _ _ => True) (L := fun k i s => stats_add_m4.l0 k l s i) trivial (fun _ _ _ _ => trivial) (fun i hi s _ h3 => ?_) (fun _ => ?_)
  · have eT : rdOf 0 l (i : Int) = l[i] := rd_get hi
    exact Ev.step (fun k => by show stats_add_m4.l0 (k + 1) _ _ _ = _; rw [stats_add_m4.l0, if_pos (by omega), if_pos (by omega), eT, wrap_next hi (by omega)]) h3
  · exact Ev.step (fun k => by show stats_add_m4.l0 (k + 1) _ _ _ = _; rw [stats_add_m4.l0, if_neg (by omega)]) Ev.some'
theorem stats_Sum_j0 (l : List St) (i : Nat) (hi : i < l.length) (hl : l.length ≤ 10000) (v2 v3 v4 v5 v6 v7 v9 : Int) {r : Int × Int × Int × Int × Int × Int × Int}
    (h : Ev (fun k => stats_Sum.l0 k l v9 (wrap64 (v2 + 1)) (wrap64 (v3 + l[i].f2)) (wrap64 (v4 + l[i].f3)) (wrap64 (v5 + l[i].f4)) (wrap64 (v6 + l[i].f5)) (wrap64 (v7 + l[i].f6)) ((i + 1 : Nat) : Int)) r) :
    Ev (fun k => stats_Sum.j0 k l (i : Int) v2 v3 v4 v5 v6 v7 v9) r := by
  have eT : rd_T25 l (i : Int) = l[i] := rd_get hi
  refine Ev.step (fun k => by show stats_Sum.j0 (k + 1) _ _ _ _ _ _ _ _ _ = _; rw [stats_Sum.j0, eT, wrap_next hi (by omega)]) ?_
  exact Ev.bind (stats_add_s _ (by simp) _ _ _ _ _ _ _) (Ev.bind (stats_add_m1_s _ (by simp) _ _ _ _ _ _ _) (Ev.bind (stats_add_m2_s _ (by simp) _ _ _ _ _ _ _) (Ev.bind (stats_add_m3_s _ (by simp) _ _ _ _ _ _ _) (Ev.bind (stats_add_m4_s _ (by simp) _ _ _ _ _ _ _) h))))
theorem sum_take (g : St → Int) (l : List St) (i : Nat) (hi : i < l.length) : wrap64 (wrap64 ((l.take i).map g).sum + g l[i]) = wrap64 ((l.take (i + 1)).map g).sum := by
  rw [wrap_wrap, List.take_succ_eq_append_getElem hi, List.map_append, List.sum_append, List.map_cons, List.map_nil]
  simp
theorem stats_Sum_s (l : List St) (hl : l.length ≤ 10000) : Ev (fun k => stats_Sum.f k l) (sumA l) := by
  have H : ∀ d i, i + d = l.length → Ev (fun k => stats_Sum.l0 k l (netN none (l.take i) : Int) (i : Int) (wrap64 ((l.take i).map (·.f2)).sum) (wrap64 ((l.take i).map (·.f3)).sum) (wrap64 ((l.take i).map (·.f4)).sum) (wrap64 ((l.take i).map (·.f5)).sum) (wrap64 ((l.take i).map (·.f6)).sum) (i : Int)) (sumA l) := by
    intro d
    induction d with
    | zero =>
      intro i hi
      obtain rfl : i = l.length := by omega
      refine Ev.step (fun k => by rw [stats_Sum.l0, if_neg (by omega)]) (Ev.ret ?_)
      rw [List.take_length]; rfl
    | succ d ih =>
      intro i hi
      have hi2 : i < l.length := by omega
      have h3 := ih (i + 1) (by omega)
      rw [← sum_take _ l i hi2, ← sum_take _ l i hi2, ← sum_take _ l i hi2, ← sum_take _ l i hi2, ← sum_take _ l i hi2] at h3
      have hN : netN none (l.take (i + 1)) = netN none (l.take i) + (if i = 0 then 1 else if (l.getD (i - 1) l[i]).f0 = l[i].f0 then 0 else 1) := by
        rw [List.take_succ_eq_append_getElem hi2, netN_snoc]
        congr 1
        cases i with
        | zero => simp
        | succ i => simp [List.getLast?_take, List.getD_eq_getElem?_getD, show i < l.length by omega]
      have hle : ∀ m : List St, ∀ p, netN p m ≤ m.length := by
        intro m
        induction m with
        | nil => intro p; simp [netN]
        | cons x m ih => intro p; rw [netN, List.length_cons]; have := ih (some x.f0); split <;> omega
      have hle := hle (l.take i) none
      rw [List.length_take] at hle
      have e1 : wrap64 ((i : Int) + 1) = ((i + 1 : Nat) : Int) := wrap_next hi2 (by omega)
      have e2 : wrap64 ((netN none (l.take i) : Int) + 1) = ((netN none (l.take i) + 1 : Nat) : Int) := by unfold wrap64; omega
      have eT : rd_T25 l (i : Int) = l[i] := rd_get hi2
      rw [hN] at h3
      refine Ev.step (fun k => by rw [stats_Sum.l0, if_pos (by omega), if_pos (by omega), eT, e2]) ?_
      by_cases c : i = 0
      · rw [if_pos c] at h3
        refine Ev.pos (by omega) (stats_Sum_j0 l i hi2 hl _ _ _ _ _ _ _ ?_)
        rw [e1]; exact h3
      · rw [if_neg c] at h3
        have e3 : wrap64 ((i : Int) - 1) = ((i - 1 : Nat) : Int) := by unfold wrap64; omega
        have eU : rd_T25 l ((i - 1 : Nat) : Int) = l.getD (i - 1) l[i] := by
          rw [show rd_T25 l ((i - 1 : Nat) : Int) = l[i - 1] from rd_get (by omega), List.getD_eq_getElem?_getD, List.getElem?_eq_getElem (by omega)]; rfl
        rw [e3, eU]
        refine Ev.neg (by omega) (Ev.pos (by omega) (Ev.pos (by omega) (Ev.ite' (fun c2 => ?_) (fun c2 => ?_))))
        · rw [if_pos c2] at h3
          refine stats_Sum_j0 l i hi2 hl _ _ _ _ _ _ _ ?_
          rw [e1]; exact h3
        · rw [if_neg c2] at h3
          refine stats_Sum_j0 l i hi2 hl _ _ _ _ _ _ _ ?_
          rw [e1]; exact h3
  have h0 := H l.length 0 (by omega)
  simp only [List.take_zero, List.map_nil, List.sum_nil, netN] at h0
  rw [show wrap64 0 = 0 by unfold wrap64; omega] at h0
  exact h0

end Go.Proofs.Ytopbcamlagdieaa.PStats
set_option linter.unusedVariables false
set_option linter.unusedSimpArgs false
namespace Go.Proofs.Ytopbcamlagdieaa.Pure
open Go.RowKit Go.Proofs.YtopbcamlagdieaaW.PrintWords Go.Proofs.YtopbcamlagdieaaW.PrintLast Go.Proofs.YtopbcamlagdieaaW.PrintMore Go.Proofs.Ytopbcamlagdieaa.PStats

theorem two_sums {α : Type} (f g : α → Int) (h : α → Nat) (e : ∀ x, f x + g x = (h x : Int)) : ∀ l : List α, (l.map f).sum + (l.map g).sum = ((l.map h).sum : Int)
  | [] => rfl
  | x :: l => by
    have := two_sums f g h e l
    have := e x
    rw [List.map_cons, List.map_cons, List.map_cons, List.sum_cons, List.sum_cons, List.sum_cons, Int.natCast_add]
    omega
theorem StatsBounds_l0 (b3 : List St × Int) (t : List Le) (hl : b3.1.length ≤ 10000) (h1 : ∀ s ∈ b3.1, 0 ≤ s.f6 ∧ s.f6 ≤ s.f2) (h2 : wrap64 (wrap64 (b3.1.map (·.f4)).sum + wrap64 (b3.1.map (·.f5)).sum) ≤ (t.length : Int)) :
    ∀ d i : Nat, i + d = b3.1.length → Ev (fun k => boarderlaw26_StatsBounds.l0 k b3 t (i : Int)) true
  | 0, i, hi => Ev.step (fun k => by show boarderlaw26_StatsBounds.l0 (k + 1) _ _ _ = _; rw [boarderlaw26_StatsBounds.l0, if_neg (by omega)]) (Ev.bind (stats_Sum_s b3.1 hl) (Ev.pos h2 (Ev.pos rfl knows26)))
  | d + 1, i, hi => by
    have hi2 : i < b3.1.length := by omega
    have eR : rd_T25 b3.1 (i : Int) = b3.1[i] := rd_get hi2
    have h3 := h1 _ (List.getElem_mem hi2)
    refine Ev.step (fun k => by show boarderlaw26_StatsBounds.l0 (k + 1) _ _ _ = _; rw [boarderlaw26_StatsBounds.l0, if_pos (by omega), if_pos (by omega), eR, if_neg (by omega), if_neg (by omega), show wrap64 ((i : Int) + 1) = ((i + 1 : Nat) : Int) by unfold wrap64; omega]) (StatsBounds_l0 b3 t hl h1 h2 d (i + 1) (by omega))
theorem StatsBounds : boarderlaw26_StatsBounds.Pure := by
  intro a b nets t now _ ht _
  refine Ev.rounds (great26 ht.1 fun h hs => ?_)
  refine Ev.bind (stats_Count_s a b nets h t hs now) ?_
  unfold countL
  by_cases c : checkI a b nets = 0
  · rw [if_pos c]
    by_cases hT : Tab t
    · rw [if_pos hT]
      refine Ev.pos rfl (StatsBounds_l0 _ t ?_ ?_ ?_ _ 0 (Nat.zero_add _))
      · rw [List.length_map]
        exact Nat.le_trans (spotsL_len h hs hT) (by decide)
      · intro s hs2
        obtain ⟨x, hx, rfl⟩ := List.mem_map.1 hs2
        show 0 ≤ freeN a b nets t x.f2 now ∧ freeN a b nets t x.f2 now ≤ ((poolS x.f2).length : Int)
        rw [free_eq c hT hx]
        have := List.length_filter_le (fun y => !busyA a b nets t now y) (poolS x.f2)
        omega
      · rw [List.map_map, List.map_map]
        have h1 := two_sums (fun x : Sp => heldN x.f2 t now) (fun x => restN x.f2 t now) _ (fun x => held_rest x.f2 t now) (spotsL nets)
        have h2 := held_sum c t now
        have h3 := hs.1
        rw [show ((fun s : St => s.f4) ∘ statS a b nets t now) = (fun x : Sp => heldN x.f2 t now) from rfl, show ((fun s : St => s.f5) ∘ statS a b nets t now) = (fun x : Sp => restN x.f2 t now) from rfl]
        generalize ((spotsL nets).map (fun x : Sp => heldN x.f2 t now)).sum = x at *
        generalize ((spotsL nets).map (fun x : Sp => restN x.f2 t now)).sum = y at *
        rw [wrap_wrap, Int.add_comm, wrap_wrap, Int.add_comm]
        rw [wrap_of (by omega) (by omega)]
        omega
    · rw [if_neg hT]
      exact Ev.neg (by dsimp only; omega) (Ev.pos rfl knows26)
  · rw [if_neg c]
    exact Ev.neg c (Ev.pos rfl knows26)

end Go.Proofs.Ytopbcamlagdieaa.Pure
namespace Go.Proofs.Ytopbcamlagdieaa.statsBounds
open Go.Proofs.Ytopbcamlagdieaa.PStats Go.Proofs.Ytopbcamlagdieaa.Abs Go.ChangeShapes Go.WideShapes Go.ChangeAt Go.RowKit
open Go.ChangeMaps (open_string shut_string)
open Go.Proofs.YtopbcamlagdieaaW.PrintWords
set_option linter.unusedVariables false
set_option linter.unusedSimpArgs false
theorem own : ownKnob Try.prog.godebug = none := by kernel_rfl
theorem laidOut : laidOutB Try.prog = true := by kernel_rfl
set_option maxRecDepth 100000 in
theorem lifted (os : Os) (started : os.Started) (H : Type) (enc : TypeId × Value → H) :
    ReturnsInHanded {} Try.checked os 4 .any (Rows.statsBoundsSpec.pre6 enc Try.prog Try.f4 Rows.statsBoundsRow.domain false) (Rows.statsBoundsSpec.post enc Try.prog Try.f4 false true false false) := by
  refine returnsInHanded_of_change_sized (C := Try.checked) own started (by kernel_rfl) Try.func4
    (ChangeSpec.witness6 (enc := enc) (C := Try.checked) false ⟨#[], #[.agg #[.int .i64 0, .int .i64 0, .slice none 0 0], .slice none 0 0, .int .i64 0], []⟩ 8 (by kernel_rfl) (by kernel_rfl) (by kernel_rfl) (by kernel_rfl)) ?_
  intro W base args ds gs before hval0 hW hcnd hsz0 _
  have hsz : (DataW.weightsEach Try.prog (Try.f4.params.toList ++ Rows.statsBoundsSpec.plain.varTypes Try.prog) (ds ++ gs)).all (· ≤ reachBytes) = true := hsz0
  have hval : ∀ (j : Nat) t v, Try.f4.params[j]? = some t → args[j]? = some v → Value.okWide Try.prog W .any base t v := hval0
  have hW' := hW
  obtain ⟨p, q, hA0, hV, rfl, hfz, hnd⟩ := hW
  have hA : DataW.TrodAll enc Try.prog W 0 (fun _ => true) true Try.f4.params.toList args.toList ds p := hA0
  rw [Try.params4] at hA hval hsz
  obtain ⟨v0, vs0, d0, ds0, p0, q0, hargs, rfl, rfl, h0, r0⟩ := trodAll_cons hA
  obtain ⟨v1, vs1, d1, ds1, p1, q1, rfl, rfl, rfl, h1, r1⟩ := trodAll_cons r0
  obtain ⟨v2, vs2, d2, ds2, p2, q2, rfl, rfl, rfl, h2, r2⟩ := trodAll_cons r1
  obtain ⟨rfl, rfl, rfl⟩ := trodAll_nil r2
  obtain rfl : args = #[v0, v1, v2] := by cases args; simp_all
  obtain ⟨rfl, rfl⟩ := trodVars_none hV
  have k0 := h0
  have lt0 : ∀ x ∈ p0, x.block < W.heap.size := by obtain ⟨m, hm⟩ := k0; exact DataW.trod_lt m _ _ _ hm
  obtain ⟨cs0, rfl, hcs0⟩ := okWide_struct Try.underlying34 (hval 0 34 v0 rfl rfl)
  obtain ⟨x0, hr0, ok_0⟩ : RaT eS34 ok34 W cs0.toList := by
    obtain ⟨fuel, hf⟩ := h0
    exact ra34 H enc W fuel _ _ hf
  have k1 := h1
  have lt1 : ∀ x ∈ p1, x.block < W.heap.size := by obtain ⟨m, hm⟩ := k1; exact DataW.trod_lt m _ _ _ hm
  obtain ⟨A1, n1, c1, rfl⟩ := okWide_slice Try.underlying35 (hval 1 35 v1 rfl rfl)
  obtain ⟨l1, hr1, ok_1⟩ : RaT (fun l : List (S68) => [vS68 l]) (fun xs : List (S68) => xs.length ≤ maxLen ∧ ∀ x ∈ xs, ok68 x) W [.slice A1 n1 c1] := by
    obtain ⟨fuel, hf⟩ := h1
    exact (ra_slice (d := eS68) (sz := 4) (z := z68) Try.underlying35 (by kernel_rfl) (fun _ => rfl) ra68) H enc W fuel _ _ hf
  obtain rfl : n1 = l1.length := (arg_one hr1).sl_len
  obtain ⟨a2, rfl, rfl, rfl, w2⟩ := open_int Try.underlying3 (hval 2 3 v2 rfl rfl) h2
  clear hA0 hval0 hsz0 hsz
  refine (boarderlaw26_StatsBounds.walk Pure.StatsBounds x0.f0 x0.f1 x0.f2 l1 a2 W ok_0 ok_1 w2 cs0 hr0 A1 c1 hr1).mono fun e W' ⟨he, bel⟩ => ?_
  subst he
  exact ⟨_, rfl, _, _, _, [], _, [], hW', trodAll_mk1 (shut_bool Try.underlying4 _), (trodAll_cons_mk (Below.trod laidOut (by kernel_rfl) (of_decide_eq_true (by kernel_rfl)) k0 bel lt0) (trodAll_cons_mk (Below.trod laidOut (by kernel_rfl) (of_decide_eq_true (by kernel_rfl)) k1 bel lt1) (trodAll_cons_mk (shut_int Try.underlying3 w2) trodAll_mk0))), rfl, bel.frame _, fun h => by cases h⟩
theorem over : Rows.statsBoundsRow.holds Try.pinned (OpenSpec.ofChange Rows.statsBoundsSpec) :=
  OpenClaim.holds_of_wide 4 Try.f4 rfl rfl rfl rfl rfl rfl rfl ⟨rfl, rfl, rfl, rfl, rfl⟩ rfl rfl rfl rfl rfl (by kernel_rfl) Try.func4 (by kernel_rfl)
    (of_decide_eq_true (by kernel_rfl)) (by unfold Func.isWrapper; first | (rw [if_pos (by decide +kernel)]; kernel_rfl) | (rw [if_neg (by decide +kernel)]; exact ⟨rfl, rfl⟩))
    (fun os started H enc _ => lifted os started H enc)
theorem proved : Rows.StatsBoundsSaid := over
#print axioms proved
end Go.Proofs.Ytopbcamlagdieaa.statsBounds
