/- The given statement on the law StatsSums: for every input that can be read as data the law of the given program returns true and leaves its arguments as they were; no condition beyond the statement's own. -/
import Derived.Below
import Derived.Carry
import Derived.ChangeOld
import Derived.OpenShut
import Derived.ProofKit
import Derived.ShutString
import Derived.SizedLaws
import Derived.Test.YtopbcamlagdieaaRows
import Derived.WalkKit
import Derived.Test.YtopbcamlagdieaaStatsZ7
set_option linter.unusedVariables false
set_option linter.unusedSimpArgs false
namespace Go.Proofs.Ytopbcamlagdieaa.PStats
open Go.RowKit Go.Proofs.YtopbcamlagdieaaW.PrintWords Go.Proofs.YtopbcamlagdieaaW.PrintLast Go.Proofs.YtopbcamlagdieaaW.PrintMore Go.Proofs.Ytopbcamlagdieaa.Abs
/-! ### boarderlaw26_as: function 8 -/
def boarderlaw26_as.l0 : Nat → List (S25) → List (S27) → Int → Option ((List (S27)))
  | 0, _, _, _ => none
  | k + 1, x0, x3, x4 => if x4 < (x0.length : Int) then (if 0 ≤ x4 then (if x3.length < 2513169434916 then (boarderlaw26_as.l0 k x0 (x3 ++ [(⟨(rd_T25 x0 x4).f0, (rd_T25 x0 x4).f1, (rd_T25 x0 x4).f2, (rd_T25 x0 x4).f3, (rd_T25 x0 x4).f4, (rd_T25 x0 x4).f5, (rd_T25 x0 x4).f6⟩ : S27)]) (wrap64 (x4 + 1))) else (none)) else (none)) else (some x3)
def boarderlaw26_as.f (k : Nat) (l0 : List (S25)) : Option ((List (S27))) := boarderlaw26_as.l0 k l0 ([] : List (S27)) 0
noncomputable def boarderlaw26_as.cx : Cx := ⟨Try.prog, tys, glo, 35, Try.f8, [.tmp 2], 0⟩
set_option maxHeartbeats 16000000 in
set_option maxRecDepth 100000 in
theorem boarderlaw26_as.ok {k : Nat} {l0 : List (S25)} {r0 : List (S27)} (H : boarderlaw26_as.f k l0 = some r0) : CallOK Try.prog glo 8 [vS25 l0] (vS27 r0) := by
  unfold boarderlaw26_as.f at H
  refine CallOK.of (c := boarderlaw26_as.cx) Try.func8 (show (boarderlaw26_as.cx).fn.body = some _ from rfl) rfl rfl (Nat.le_of_ble_eq_true rfl) rfl ?_
  repeat' (first
    | ((with_reducible replace H := some_ite H); obtain ⟨_, H⟩ := H)
    | (with_reducible replace H := true_ite H)
    | (with_reducible replace H := false_ite H)
    | ((with_reducible have hb := bool_ite H); clear H; rcases hb with ⟨e_, H⟩ | ⟨e_, H⟩ <;> subst e_)
    | ((with_reducible apply ROps.pure); (case hop => rfl); (case hw => rfl); (case hdst => rfl); (case hd => rfl))
    | (with_reducible apply ROps.nil)
    | (with_reducible apply Runs.seq)
    | (with_reducible apply Runs.region tysOK)
    | (with_reducible apply Runs.block)
    | (with_reducible apply Runs.skip)
    | (with_reducible apply Runs.inBlock)
    | (with_reducible apply Runs.scope)
    | (with_reducible apply Runs.inScope)
    | (with_reducible apply Runs.label)
    | ((with_reducible apply Runs.condT); (case ho => rfl))
    | ((with_reducible apply Runs.condF); (case ho => rfl))
    | ((with_reducible apply Runs.exit); (case he => rfl))
    | ((with_reducible apply ROps.store); (case hop => rfl); (case hp => rfl); (case hR => rfl); (case hc => rfl); (case hl => first | (dsimp only [setR_one, setR, Nat.beq, cond]; done) | (dsimp only [setR_one, setR, Nat.beq, cond]; rfl) | rfl); (case hl' => first | (dsimp only [List.take, List.drop, List.append, List.nil_append, List.cons_append, List.map, List.length, Nat.add]; rfl) | rfl); (case hw => rfl); (all_goals try rfl))
    | ((with_reducible apply ROps.cmp); (case hop => exact cmpX); (case hw => rfl); (case hdst => rfl); (case hd => rfl); (all_goals (intro h; first | (replace H := ite_pos_ h H) | (replace H := ite_neg_ h H) | (replace H := dec_pos h H) | (replace H := dec_neg h H) | (replace H := dec_t h H) | (replace H := dec_f h H) | (replace H := ite_pos_ (Decidable.not_not.1 h) H) | ((try simp only [rd_T25, rdOf] at h); (try simp only [rd_T25, rdOf] at H); (rw [decide_eq_true h] at H)) | ((try simp only [rd_T25, rdOf] at h); (try simp only [rd_T25, rdOf] at H); (rw [decide_eq_false h] at H)) | ((try simp only [rd_T25, rdOf] at h); (try simp only [rd_T25, rdOf] at H); (rw [if_pos h] at H)) | ((try simp only [rd_T25, rdOf] at h); (try simp only [rd_T25, rdOf] at H); (rw [if_neg h] at H)) | contradiction | skip)))
    | ((with_reducible apply ROps.val); (case hop => exact valX); (case hw => rfl); (case hdst => rfl); (case hd => rfl))
    | ((with_reducible apply ROps.idx); (case hop => rfl); (case hx => rfl); (case hi => rfl); (case he => rfl); (case hw => rfl); (case hdst => rfl); (case hd => rfl); (case h0 => first | assumption | omega); (case h1 => first | assumption | omega))
    | ((with_reducible apply ROps.alloc); (case hop => rfl); (case hw => rfl); (all_goals try rfl))
    | ((with_reducible apply ROps.lit); (case hop => rfl); (case hti => rfl); (case hsz => rfl); (case hl => rfl); (case hrf => rfl); (case hw => rfl); (all_goals try rfl))
    | ((with_reducible apply ROps.app); (case hop => rfl); (case hti => rfl); (case hsz => rfl); (case hs => rfl); (case hR => rfl); (case hx => rfl); (case hb => constructor <;> ((try simp only [maxLen, List.length_nil, List.length_cons, List.length_append] at *); omega)); (case hw => rfl); (all_goals try rfl))
    | ((with_reducible apply ROps.appN); (case hop => rfl); (case hti => rfl); (case hsz => rfl); (case hs => rfl); (case hx => rfl); (case hb => constructor <;> ((try simp only [maxLen, List.length_nil, List.length_cons, List.length_append] at *); omega)); (case hw => rfl); (all_goals try rfl))
    | ((with_reducible apply Runs.loopK2 ((fun i0 => fun kk (v0_3 : List (S27)) (v0_4 : Int) => boarderlaw26_as.l0 kk i0 v0_3 v0_4) _) [0] [] (fun b v0_3 v0_4 => [(3, .own (b + 0) (v0_3).length 7 (rowsE eS27 z27 v0_3)), (4, .imm (.int .i64 v0_4))]) (fun v0_3 v0_4 => [.arr 27 7 (v0_3).length]) _ _ _ [_] H); (case h0 => intros; rfl); (any_goals (clear H; intro k0 hk0 ih0 v0_3 v0_4 H; replace H : boarderlaw26_as.l0 (k0 + 1) _ v0_3 v0_4 = some _ := H; rw [boarderlaw26_as.l0] at H)))
    | (with_reducible apply ih0 _ _ _ [_] _ _ (by omega) H)
    | ((with_reducible apply Runs.retP tysOK); (case hrs => rfl); (case h => rfl); (case hr => (cases H; exact refX)); (case hx => rfl))
    | exact leRX)
end Go.Proofs.Ytopbcamlagdieaa.PStats
set_option linter.unusedVariables false
set_option linter.unusedSimpArgs false
namespace Go.Proofs.Ytopbcamlagdieaa.PStats
open Go.RowKit Go.Proofs.YtopbcamlagdieaaW.PrintWords Go.Proofs.YtopbcamlagdieaaW.PrintLast Go.Proofs.YtopbcamlagdieaaW.PrintMore Go.Proofs.Ytopbcamlagdieaa.Abs
/-! ### boarderref26_Sum: function 9 -/
mutual
def boarderref26_Sum.j0 : Nat → Int → List (S27) → Int → Int → Int → Int → Int → Int → Option (Int × Int × Int × Int × Int × Int × Int)
  | 0, _, _, _, _, _, _, _, _ => none
  | k + 1, v7, p0, v2, v3, v4, v5, v6, v8 => (if 0 ≤ v7 then (if v7 < (p0.length : Int) then (boarderref26_Sum.l0 k p0 v8 (wrap64 (v2 + (rd_T27 p0 v7).f2)) (wrap64 (v3 + (rd_T27 p0 v7).f3)) (wrap64 (v4 + (rd_T27 p0 v7).f4)) (wrap64 (v5 + (rd_T27 p0 v7).f5)) (wrap64 (v6 + (rd_T27 p0 v7).f6)) (wrap64 (v7 + 1))) else none) else none)
def boarderref26_Sum.l0 : Nat → List (S27) → Int → Int → Int → Int → Int → Int → Int → Option (Int × Int × Int × Int × Int × Int × Int)
  | 0, _, _, _, _, _, _, _, _ => none
  | k + 1, p0, v1, v2, v3, v4, v5, v6, v7 => (if v7 < (p0.length : Int) then (if v7 = 0 then (boarderref26_Sum.j0 k v7 p0 v2 v3 v4 v5 v6 (wrap64 (v1 + 1))) else (if 0 ≤ v7 then (if 0 ≤ (wrap64 (v7 - 1)) then (if (wrap64 (v7 - 1)) < (p0.length : Int) then (if (rd_T27 p0 v7).f0 = (rd_T27 p0 (wrap64 (v7 - 1))).f0 then (boarderref26_Sum.j0 k v7 p0 v2 v3 v4 v5 v6 v1) else (boarderref26_Sum.j0 k v7 p0 v2 v3 v4 v5 v6 (wrap64 (v1 + 1)))) else none) else none) else none)) else (some (v1, (p0.length : Int), v2, v3, v4, v5, v6)))
end
def boarderref26_Sum.f (k : Nat) (p0 : List (S27)) : Option (Int × Int × Int × Int × Int × Int × Int) := (boarderref26_Sum.l0 k p0 0 0 0 0 0 0 0)
noncomputable def boarderref26_Sum.cx : Cx := ⟨Try.prog, tys, glo, 80, Try.f9, [.cell 2 27], 0⟩
def boarderref26_Sum.Sj0 (r0 : Int) (r1 : Int) (r2 : Int) (r3 : Int) (r4 : Int) (r5 : Int) (r6 : Int) (k : Nat) : Prop := ∀ (v7 : Int) (p0 : List (S27)) (v2 : Int) (v3 : Int) (v4 : Int) (v5 : Int) (v6 : Int) (v8 : Int), boarderref26_Sum.j0 k v7 p0 v2 v3 v4 v5 v6 v8 = some (r0, r1, r2, r3, r4, r5, r6) → Runs boarderref26_Sum.cx (Pur (.agg [.imm (.int .i64 r0), .imm (.int .i64 r1), .imm (.int .i64 r2), .imm (.int .i64 r3), .imm (.int .i64 r4), .imm (.int .i64 r5), .imm (.int .i64 r6)])) [.code (cP (bodyOf Try.f9) [1, 1, 0, 1, 0, 0, 1, 0, 0, 1]), .inBlock 1, .code (cP (bodyOf Try.f9) [1, 1, 0, 1, 0, 0, 1, 1]), .inLoop (cP (bodyOf Try.f9) [1, 1, 0, 1, 0, 0]), .inBlock 0, .code (cP (bodyOf Try.f9) [1, 1, 1])] (overF none_ [(0, vS27 p0), (2, .loc 0 0 0), (3, .loc 1 0 0), (4, .imm (.int .i64 v7))]) [.mat 1 7 (fun _ => [.imm (.int .i64 0), .imm (.int .i64 0), .imm (.int .i64 0), .imm (.int .i64 0), .imm (.int .i64 0), .imm (.int .i64 0), .imm (.int .i64 0)]), .mat 1 7 (fun _ => [.imm (.int .i64 v8), .imm (.int .i64 0), .imm (.int .i64 v2), .imm (.int .i64 v3), .imm (.int .i64 v4), .imm (.int .i64 v5), .imm (.int .i64 v6)])]
def boarderref26_Sum.Sl0 (r0 : Int) (r1 : Int) (r2 : Int) (r3 : Int) (r4 : Int) (r5 : Int) (r6 : Int) (k : Nat) : Prop := ∀ (p0 : List (S27)) (v1 : Int) (v2 : Int) (v3 : Int) (v4 : Int) (v5 : Int) (v6 : Int) (v7 : Int), boarderref26_Sum.l0 k p0 v1 v2 v3 v4 v5 v6 v7 = some (r0, r1, r2, r3, r4, r5, r6) → Runs boarderref26_Sum.cx (Pur (.agg [.imm (.int .i64 r0), .imm (.int .i64 r1), .imm (.int .i64 r2), .imm (.int .i64 r3), .imm (.int .i64 r4), .imm (.int .i64 r5), .imm (.int .i64 r6)])) [.code (cP (bodyOf Try.f9) [1, 1, 0, 1, 0, 0]), .inLoop (cP (bodyOf Try.f9) [1, 1, 0, 1, 0, 0]), .inBlock 0, .code (cP (bodyOf Try.f9) [1, 1, 1])] (overF none_ [(0, vS27 p0), (2, .loc 0 0 0), (3, .loc 1 0 0), (4, .imm (.int .i64 v7))]) [.mat 1 7 (fun _ => [.imm (.int .i64 0), .imm (.int .i64 0), .imm (.int .i64 0), .imm (.int .i64 0), .imm (.int .i64 0), .imm (.int .i64 0), .imm (.int .i64 0)]), .mat 1 7 (fun _ => [.imm (.int .i64 v1), .imm (.int .i64 0), .imm (.int .i64 v2), .imm (.int .i64 v3), .imm (.int .i64 v4), .imm (.int .i64 v5), .imm (.int .i64 v6)])]
def boarderref26_Sum.Sf (r0 : Int) (r1 : Int) (r2 : Int) (r3 : Int) (r4 : Int) (r5 : Int) (r6 : Int) (k : Nat) : Prop := ∀ (p0 : List (S27)), boarderref26_Sum.f k p0 = some (r0, r1, r2, r3, r4, r5, r6) → Runs boarderref26_Sum.cx (Pur (.agg [.imm (.int .i64 r0), .imm (.int .i64 r1), .imm (.int .i64 r2), .imm (.int .i64 r3), .imm (.int .i64 r4), .imm (.int .i64 r5), .imm (.int .i64 r6)])) [.code (bodyOf Try.f9)] (frame0 [vS27 p0]) []
set_option maxHeartbeats 64000000 in
set_option maxRecDepth 100000 in
theorem boarderref26_Sum.seg (r0 : Int) (r1 : Int) (r2 : Int) (r3 : Int) (r4 : Int) (r5 : Int) (r6 : Int) : (∀ k, boarderref26_Sum.Sj0 r0 r1 r2 r3 r4 r5 r6 k ∧ boarderref26_Sum.Sl0 r0 r1 r2 r3 r4 r5 r6 k) ∧ ∀ k, (boarderref26_Sum.Sj0 r0 r1 r2 r3 r4 r5 r6 k ∧ boarderref26_Sum.Sl0 r0 r1 r2 r3 r4 r5 r6 k) → boarderref26_Sum.Sf r0 r1 r2 r3 r4 r5 r6 k := by
  have hs : ∀ k, (boarderref26_Sum.Sj0 r0 r1 r2 r3 r4 r5 r6 k ∧ boarderref26_Sum.Sl0 r0 r1 r2 r3 r4 r5 r6 k) → (boarderref26_Sum.Sj0 r0 r1 r2 r3 r4 r5 r6 (k + 1) ∧ boarderref26_Sum.Sl0 r0 r1 r2 r3 r4 r5 r6 (k + 1)) ∧ boarderref26_Sum.Sf r0 r1 r2 r3 r4 r5 r6 k := by
    intro k h
    obtain ⟨h_j0, h_l0⟩ := h
    refine ⟨⟨?_, ?_⟩, ?_⟩
    (intro v7 p0 v2 v3 v4 v5 v6 v8 H; rw [boarderref26_Sum.j0] at H; try dsimp only at H)
    rotate_left
    (intro p0 v1 v2 v3 v4 v5 v6 v7 H; rw [boarderref26_Sum.l0] at H; try dsimp only at H)
    rotate_left
    (intro p0 H; unfold boarderref26_Sum.f at H; try dsimp only at H)
    rotate_left
    repeat' (first
      | ((with_reducible have hJ : boarderref26_Sum.j0 _ _ _ _ _ _ _ _ _ = some _ := H); clear hJ; (apply Runs.le [_, _] (h_j0 _ _ _ _ _ _ _ _ H)))
      | ((with_reducible have hJ : boarderref26_Sum.l0 _ _ _ _ _ _ _ _ _ = some _ := H); clear hJ; (with_reducible apply Runs.loop); (apply Runs.le [_, _] (h_l0 _ _ _ _ _ _ _ _ H)))
      | ((with_reducible have hJ : boarderref26_Sum.l0 _ _ _ _ _ _ _ _ _ = some _ := H); clear hJ; (with_reducible apply Runs.inLoop); (apply Runs.le [_, _] (h_l0 _ _ _ _ _ _ _ _ H)))
      | ((with_reducible replace H := some_ite H); obtain ⟨_, H⟩ := H)
      | ((first | with_reducible apply ROps.pure | with_reducible apply DOps.pure); (case hop => rfl); (case hw => rfl); (case hdst => rfl); (case hd => rfl))
      | (first | with_reducible apply ROps.nil | with_reducible apply DOps.nil)
      | (with_reducible apply Runs.seq)
      | (with_reducible apply Runs.region tysOK)
      | ((with_reducible apply Runs.drawnE [] tysOK mixed); (case hB => kernel_rfl))
      | (with_reducible apply Runs.block)
      | (with_reducible apply Runs.skip)
      | (with_reducible apply Runs.inBlock)
      | (with_reducible apply Runs.scope)
      | (with_reducible apply Runs.inScope)
      | (with_reducible apply Runs.label)
      | ((with_reducible apply Runs.condT); (case ho => rfl))
      | ((with_reducible apply Runs.condF); (case ho => rfl))
      | ((with_reducible apply Runs.exit); (case he => rfl))
      | ((first | with_reducible apply ROps.store | with_reducible apply DOps.store); (case hop => rfl); (case hp => rfl); (case hR => rfl); (case hc => rfl); (case hl => first | (dsimp only [setR_one, setR, Nat.beq, cond]; done) | (dsimp only [setR_one, setR, Nat.beq, cond]; rfl) | rfl); (case hl' => first | (dsimp only [List.take, List.drop, List.append, List.nil_append, List.cons_append, List.map, List.length, Nat.add]; rfl) | rfl); (case hw => rfl); (all_goals try rfl))
      | ((first | with_reducible apply ROps.cmp | with_reducible apply DOps.cmp); (case hop => exact cmpX); (case hw => rfl); (case hdst => rfl); (case hd => rfl); (all_goals (intro h; first | (replace H := ite_pos_ h H) | (replace H := ite_neg_ h H) | (replace H := ite_pos_ (Decidable.not_not.1 h) H) | ((try simp only [rd_T27, rdOf] at h); (try simp only [rd_T27, rdOf] at H); (rw [if_pos h] at H)) | ((try simp only [rd_T27, rdOf] at h); (try simp only [rd_T27, rdOf] at H); (rw [if_neg h] at H)) | contradiction | skip)))
      | ((first | with_reducible apply ROps.val | with_reducible apply DOps.val); (case hop => exact valX); (case hw => rfl); (case hdst => rfl); (case hd => rfl))
      | ((first | (with_reducible apply ROps.eqS; case hop => rfl) | (with_reducible apply DOps.eqS; case hop => rfl) | (with_reducible apply ROps.neS; case hop => rfl) | (with_reducible apply DOps.neS; case hop => rfl)); (case ht => rfl); (case hx => rfl); (case hy => rfl); (case hl => rfl); (case hr => rfl); (case hw => rfl); (case hdst => rfl); (case hd => rfl); (all_goals (intro h; first | (replace H := ite_posF H h) | (replace H := ite_negF H h) | (dsimp only [eqP, eqA] at h) | skip)))
      | ((first | with_reducible apply ROps.idx | with_reducible apply DOps.idx); (case hop => rfl); (case hx => rfl); (case hi => rfl); (case he => rfl); (case hw => rfl); (case hdst => rfl); (case hd => rfl); (case h0 => first | assumption | omega); (case h1 => first | assumption | omega))
      | ((with_reducible apply ROps.alloc); (case hop => rfl); (case hw => rfl); (all_goals try rfl))
      | ((first | with_reducible apply ROps.off | with_reducible apply DOps.off); (case hw => rfl); (case hdst => rfl); (case hd => rfl))
      | ((with_reducible apply Runs.retP tysOK); (case hrs => rfl); (case h => rfl); (case hr => (cases H; exact refX)); (case hx => rfl))
      | exact leRX
      | (refine Runs.code_eq (p' := .seq _ _) rfl ?_)
      | (refine Runs.code_eq (p' := .region _ _ _) rfl ?_)
      | (refine Runs.code_eq (p' := .cond _ _ _) rfl ?_)
      | (refine Runs.code_eq (p' := .block _ _) rfl ?_)
      | (refine Runs.code_eq (p' := .loop _) rfl ?_)
      | (refine Runs.code_eq (p' := .exit _) rfl ?_)
      | (refine Runs.code_eq (p' := .ret) rfl ?_)
      | (refine Runs.code_eq (p' := .skip) rfl ?_)
      | (refine Runs.code_eq (p' := .label _) rfl ?_)
      | (refine Runs.code_eq (p' := .scope _) rfl ?_))
  refine ⟨fun k => ?_, fun k h => (hs k h).2⟩
  induction k with
  | zero => exact ⟨(by intro _ _ _ _ _ _ _ _ H; rw [boarderref26_Sum.j0] at H; cases H), (by intro _ _ _ _ _ _ _ _ H; rw [boarderref26_Sum.l0] at H; cases H)⟩
  | succ k ih => exact (hs k ih).1
theorem boarderref26_Sum.ok {k : Nat} {p0 : List (S27)} {r0 : Int} {r1 : Int} {r2 : Int} {r3 : Int} {r4 : Int} {r5 : Int} {r6 : Int} (H : boarderref26_Sum.f k p0 = some (r0, r1, r2, r3, r4, r5, r6)) : CallOK Try.prog glo 9 [vS27 p0] (.agg [.imm (.int .i64 r0), .imm (.int .i64 r1), .imm (.int .i64 r2), .imm (.int .i64 r3), .imm (.int .i64 r4), .imm (.int .i64 r5), .imm (.int .i64 r6)]) :=
  CallOK.of (c := boarderref26_Sum.cx) (p := bodyOf Try.f9) Try.func9 rfl rfl rfl (Nat.le_of_ble_eq_true rfl) rfl ((boarderref26_Sum.seg r0 r1 r2 r3 r4 r5 r6).2 k ((boarderref26_Sum.seg r0 r1 r2 r3 r4 r5 r6).1 k) p0 H)
end Go.Proofs.Ytopbcamlagdieaa.PStats
set_option linter.unusedVariables false
set_option linter.unusedSimpArgs false
namespace Go.Proofs.Ytopbcamlagdieaa.PStats
open Go.RowKit Go.Proofs.YtopbcamlagdieaaW.PrintWords Go.Proofs.YtopbcamlagdieaaW.PrintLast Go.Proofs.YtopbcamlagdieaaW.PrintMore Go.Proofs.Ytopbcamlagdieaa.Abs
/-! ### boarderlaw26_StatsSums: function 3 -/
def boarderlaw26_StatsSums.j0 : Nat → Int × Int × Int × Int × Int × Int × Int → Int × Int × Int × Int × Int × Int × Int → Int × Int × Int × Int × Int × Int × Int → Int → Option (Bool)
  | 0, _, _, _, _ => none
  | k + 1, b3, b2, b1, v11 => (if b3.1 = (wrap64 (v11 + b2.1)) ∧ b3.2.1 = (wrap64 (b1.2.1 + b2.2.1)) ∧ b3.2.2.1 = (wrap64 (b1.2.2.1 + b2.2.2.1)) ∧ b3.2.2.2.1 = (wrap64 (b1.2.2.2.1 + b2.2.2.2.1)) ∧ b3.2.2.2.2.1 = (wrap64 (b1.2.2.2.2.1 + b2.2.2.2.2.1)) ∧ b3.2.2.2.2.2.1 = (wrap64 (b1.2.2.2.2.2.1 + b2.2.2.2.2.2.1)) ∧ b3.2.2.2.2.2.2 = (wrap64 (b1.2.2.2.2.2.2 + b2.2.2.2.2.2.2)) then ((boarderlaw26_knows.f k).bind fun t12 => (some t12)) else (some false))
def boarderlaw26_StatsSums.f (k : Nat) (p0 : List (S25)) (p1 : List (S25)) : Option (Bool) := (if (p0.length : Int) > 100 then ((boarderlaw26_knows.f k).bind fun t14 => (some t14)) else (if (p1.length : Int) > 100 then ((boarderlaw26_knows.f k).bind fun t13 => (some t13)) else ((stats_Sum.f k p0).bind fun b1 => ((stats_Sum.f k p1).bind fun b2 => (if 0 + p0.length ≤ 2513169434916 then (if (([] : List (S25)) ++ p0).length + p1.length ≤ 2513169434916 then ((stats_Sum.f k ((([] : List (S25)) ++ p0) ++ p1)).bind fun b3 => ((boarderlaw26_as.f k ([(⟨b1.1, b1.2.1, b1.2.2.1, b1.2.2.2.1, b1.2.2.2.2.1, b1.2.2.2.2.2.1, b1.2.2.2.2.2.2⟩ : S25)] : List (S25))).bind fun t4 => (if 0 ≤ 0 then (if 0 < (t4.length : Int) then ((boarderlaw26_as.f k p0).bind fun t5 => ((boarderref26_Sum.f k t5).bind fun b6 => (if (rd_T27 t4 0).f0 = b6.1 ∧ (rd_T27 t4 0).f1 = b6.2.1 ∧ (rd_T27 t4 0).f2 = b6.2.2.1 ∧ (rd_T27 t4 0).f3 = b6.2.2.2.1 ∧ (rd_T27 t4 0).f4 = b6.2.2.2.2.1 ∧ (rd_T27 t4 0).f5 = b6.2.2.2.2.2.1 ∧ (rd_T27 t4 0).f6 = b6.2.2.2.2.2.2 then ((boarderlaw26_as.f k ([(⟨b3.1, b3.2.1, b3.2.2.1, b3.2.2.2.1, b3.2.2.2.2.1, b3.2.2.2.2.2.1, b3.2.2.2.2.2.2⟩ : S25)] : List (S25))).bind fun t7 => (if 0 < (t7.length : Int) then ((boarderlaw26_as.f k p0).bind fun t8 => (if 0 + t8.length ≤ 2513169434916 then ((boarderlaw26_as.f k p1).bind fun t9 => (if (([] : List (S27)) ++ t8).length + t9.length ≤ 2513169434916 then ((boarderref26_Sum.f k ((([] : List (S27)) ++ t8) ++ t9)).bind fun b10 => (if (rd_T27 t7 0).f0 = b10.1 ∧ (rd_T27 t7 0).f1 = b10.2.1 ∧ (rd_T27 t7 0).f2 = b10.2.2.1 ∧ (rd_T27 t7 0).f3 = b10.2.2.2.1 ∧ (rd_T27 t7 0).f4 = b10.2.2.2.2.1 ∧ (rd_T27 t7 0).f5 = b10.2.2.2.2.2.1 ∧ (rd_T27 t7 0).f6 = b10.2.2.2.2.2.2 then (if (p0.length : Int) > 0 then (if (p1.length : Int) > 0 then (if 0 ≤ (wrap64 ((p0.length : Int) - 1)) then (if (wrap64 ((p0.length : Int) - 1)) < (p0.length : Int) then (if 0 < (p1.length : Int) then (if (rd_T25 p0 (wrap64 ((p0.length : Int) - 1))).f0 = (rd_T25 p1 0).f0 then (boarderlaw26_StatsSums.j0 k b3 b2 b1 (wrap64 (b1.1 - 1))) else (boarderlaw26_StatsSums.j0 k b3 b2 b1 (b1.1))) else none) else none) else none) else (boarderlaw26_StatsSums.j0 k b3 b2 b1 (b1.1))) else (boarderlaw26_StatsSums.j0 k b3 b2 b1 (b1.1))) else (some false))) else none)) else none)) else none)) else (some false)))) else none) else none))) else none) else none)))))
noncomputable def boarderlaw26_StatsSums.cx : Cx := ⟨Try.prog, tys, glo, 119, Try.f3, [.tmp 4], 0⟩
def boarderlaw26_StatsSums.Sj0 (r0 : Bool) (k : Nat) : Prop := ∀ (b3 : Int × Int × Int × Int × Int × Int × Int) (b2 : Int × Int × Int × Int × Int × Int × Int) (b1 : Int × Int × Int × Int × Int × Int × Int) (v11 : Int), boarderlaw26_StatsSums.j0 k b3 b2 b1 v11 = some r0 → Runs boarderlaw26_StatsSums.cx (Pur (.imm (.bool r0))) [.code (cP (bodyOf Try.f3) [1, 1, 1, 1, 1, 1])] (overF none_ [(5, .loc 0 0 0), (6, .loc 1 0 0), (7, .loc 2 0 0)]) [.mat 1 7 (fun _ => [.imm (.int .i64 v11), .imm (.int .i64 b1.2.1), .imm (.int .i64 b1.2.2.1), .imm (.int .i64 b1.2.2.2.1), .imm (.int .i64 b1.2.2.2.2.1), .imm (.int .i64 b1.2.2.2.2.2.1), .imm (.int .i64 b1.2.2.2.2.2.2)]), .mat 1 7 (fun _ => [.imm (.int .i64 b2.1), .imm (.int .i64 b2.2.1), .imm (.int .i64 b2.2.2.1), .imm (.int .i64 b2.2.2.2.1), .imm (.int .i64 b2.2.2.2.2.1), .imm (.int .i64 b2.2.2.2.2.2.1), .imm (.int .i64 b2.2.2.2.2.2.2)]), .mat 1 7 (fun _ => [.imm (.int .i64 b3.1), .imm (.int .i64 b3.2.1), .imm (.int .i64 b3.2.2.1), .imm (.int .i64 b3.2.2.2.1), .imm (.int .i64 b3.2.2.2.2.1), .imm (.int .i64 b3.2.2.2.2.2.1), .imm (.int .i64 b3.2.2.2.2.2.2)])]
def boarderlaw26_StatsSums.Sf (r0 : Bool) (k : Nat) : Prop := ∀ (p0 : List (S25)) (p1 : List (S25)), boarderlaw26_StatsSums.f k p0 p1 = some r0 → Runs boarderlaw26_StatsSums.cx (Pur (.imm (.bool r0))) [.code (bodyOf Try.f3)] (frame0 [vS25 p0, vS25 p1]) []
set_option maxHeartbeats 64000000 in
set_option maxRecDepth 100000 in
theorem boarderlaw26_StatsSums.seg (r0 : Bool) : (∀ k, boarderlaw26_StatsSums.Sj0 r0 k) ∧ ∀ k, (boarderlaw26_StatsSums.Sj0 r0 k) → boarderlaw26_StatsSums.Sf r0 k := by
  have hs : ∀ k, (boarderlaw26_StatsSums.Sj0 r0 k) → (boarderlaw26_StatsSums.Sj0 r0 (k + 1)) ∧ boarderlaw26_StatsSums.Sf r0 k := by
    intro k h
    have h_j0 := h
    refine ⟨?_, ?_⟩
    (intro b3 b2 b1 v11 H; obtain ⟨b3_0, b3_1, b3_2, b3_3, b3_4, b3_5, b3_6⟩ := b3; obtain ⟨b2_0, b2_1, b2_2, b2_3, b2_4, b2_5, b2_6⟩ := b2; obtain ⟨b1_0, b1_1, b1_2, b1_3, b1_4, b1_5, b1_6⟩ := b1; rw [boarderlaw26_StatsSums.j0] at H; try dsimp only at H)
    rotate_left
    (intro p0 p1 H; unfold boarderlaw26_StatsSums.f at H; try dsimp only at H)
    rotate_left
    repeat' (first
      | ((with_reducible have hJ : boarderlaw26_StatsSums.j0 _ _ _ _ _ = some _ := H); clear hJ; (apply Runs.le [_, _, _] (h_j0 _ _ _ _ H)))
      | ((first | with_reducible apply ROps.litO | with_reducible apply DOps.litO); (case hdst => exact (rfl : _ = some 21)); (case hop => rfl); (case hti => rfl); (case hsz => rfl); (case hl => rfl); (case hrf => rfl); (case hw => rfl); (all_goals try rfl))
      | ((first | with_reducible apply ROps.litO | with_reducible apply DOps.litO); (case hdst => exact (rfl : _ = some 42)); (case hop => rfl); (case hti => rfl); (case hsz => rfl); (case hl => rfl); (case hrf => rfl); (case hw => rfl); (all_goals try rfl))
      | ((with_reducible replace H := some_ite H); obtain ⟨_, H⟩ := H)
      | (with_reducible replace H := some_bind_ H)
      | ((with_reducible apply ROps.build); (case hb => rfl); (case hop => rfl); (case hl => first | (dsimp only [List.take, List.drop, List.nil_append, List.cons_append, List.map, List.length, Nat.reduceAdd]; rfl) | rfl); (case hw => rfl); (case hdst => rfl); (case hd => rfl))
      | ((first | with_reducible apply ROps.pure | with_reducible apply DOps.pure); (case hop => rfl); (case hw => rfl); (case hdst => rfl); (case hd => rfl))
      | (first | with_reducible apply ROps.nil | with_reducible apply DOps.nil)
      | (with_reducible apply Runs.seq)
      | (with_reducible apply Runs.region tysOK)
      | ((with_reducible apply Runs.drawnE [21, 23, 25, 42, 45, 48] tysOK mixed); (case hB => kernel_rfl))
      | (with_reducible apply Runs.skip)
      | (with_reducible apply Runs.scope)
      | (with_reducible apply Runs.inScope)
      | (with_reducible apply Runs.label)
      | ((with_reducible apply Runs.condT); (case ho => rfl))
      | ((with_reducible apply Runs.condF); (case ho => rfl))
      | ((first | with_reducible apply ROps.store | with_reducible apply DOps.store); (case hop => rfl); (case hp => rfl); (case hR => rfl); (case hc => rfl); (case hl => first | (dsimp only [setR_one, setR, Nat.beq, cond]; done) | (dsimp only [setR_one, setR, Nat.beq, cond]; rfl) | rfl); (case hl' => first | (dsimp only [List.take, List.drop, List.append, List.nil_append, List.cons_append, List.map, List.length, Nat.add]; rfl) | rfl); (case hw => rfl); (all_goals try rfl))
      | ((first | with_reducible apply ROps.cmp | with_reducible apply DOps.cmp); (case hop => exact cmpX); (case hw => rfl); (case hdst => rfl); (case hd => rfl); (all_goals (intro h; first | (replace H := ite_pos_ h H) | (replace H := ite_neg_ h H) | (replace H := ite_pos_ (Decidable.not_not.1 h) H) | ((try simp only [rd_T25, rd_T27, rdOf] at h); (try simp only [rd_T25, rd_T27, rdOf] at H); (rw [if_pos h] at H)) | ((try simp only [rd_T25, rd_T27, rdOf] at h); (try simp only [rd_T25, rd_T27, rdOf] at H); (rw [if_neg h] at H)) | contradiction | skip)))
      | ((first | with_reducible apply ROps.val | with_reducible apply DOps.val); (case hop => exact valX); (case hw => rfl); (case hdst => rfl); (case hd => rfl))
      | ((first | (with_reducible apply ROps.eqS; case hop => rfl) | (with_reducible apply DOps.eqS; case hop => rfl) | (with_reducible apply ROps.neS; case hop => rfl) | (with_reducible apply DOps.neS; case hop => rfl)); (case ht => rfl); (case hx => rfl); (case hy => rfl); (case hl => rfl); (case hr => rfl); (case hw => rfl); (case hdst => rfl); (case hd => rfl); (all_goals (intro h; first | (replace H := ite_posF H h) | (replace H := ite_negF H h) | (dsimp only [eqP, eqA] at h) | skip)))
      | ((first | with_reducible apply ROps.idx | with_reducible apply DOps.idx); (case hop => rfl); (case hx => rfl); (case hi => rfl); (case he => rfl); (case hw => rfl); (case hdst => rfl); (case hd => rfl); (case h0 => first | assumption | omega); (case h1 => first | assumption | omega))
      | ((with_reducible apply ROps.alloc); (case hop => rfl); (case hw => rfl); (all_goals try rfl))
      | ((first | with_reducible apply ROps.lit | with_reducible apply DOps.lit); (case hop => rfl); (case hti => rfl); (case hsz => rfl); (case hl => rfl); (case hrf => rfl); (case hw => rfl); (all_goals try rfl))
      | ((first | with_reducible apply ROps.app | with_reducible apply DOps.app); (case hop => rfl); (case hti => rfl); (case hsz => rfl); (case hs => rfl); (case hR => rfl); (case hx => rfl); (case hb => constructor <;> ((try simp only [maxLen, List.length_nil, List.length_cons, List.length_append] at *); omega)); (case hw => rfl); (all_goals try rfl))
      | ((first | with_reducible apply ROps.appN | with_reducible apply DOps.appN); (case hop => rfl); (case hti => rfl); (case hsz => rfl); (case hs => rfl); (case hx => rfl); (case hb => constructor <;> ((try simp only [maxLen, List.length_nil, List.length_cons, List.length_append] at *); omega)); (case hw => rfl); (all_goals try rfl))
      | ((first | with_reducible apply ROps.off | with_reducible apply DOps.off); (case hw => rfl); (case hdst => rfl); (case hd => rfl))
      | ((with_reducible have hB : (boarderlaw26_as.f _ _).bind _ = some _ := H); clear hB; (replace H := bind_some' H); (obtain ⟨t_, H1, H⟩ := H); (try dsimp only at H); (first | with_reducible apply ROps.call | with_reducible apply DOps.call); (case hop => rfl); (case hc => exact boarderlaw26_as.ok H1); (case ha => exact argsX); (case hw => rfl); (case hdst => rfl); (case hd => rfl))
      | ((with_reducible have hB : (boarderlaw26_knows.f _).bind _ = some _ := H); clear hB; (replace H := bind_some' H); (obtain ⟨t_, H1, H⟩ := H); (try dsimp only at H); (first | with_reducible apply ROps.call | with_reducible apply DOps.call); (case hop => rfl); (case hc => exact boarderlaw26_knows.ok H1); (case ha => exact argsX); (case hw => rfl); (case hdst => rfl); (case hd => rfl))
      | ((with_reducible have hB : (boarderref26_Sum.f _ _).bind _ = some _ := H); clear hB; (replace H := bind_some' H); (obtain ⟨⟨t_0, t_1, t_2, t_3, t_4, t_5, t_6⟩, H1, H⟩ := H); (try dsimp only at H); (first | with_reducible apply ROps.call | with_reducible apply DOps.call); (case hop => rfl); (case hc => exact boarderref26_Sum.ok H1); (case ha => exact argsX); (case hw => rfl); (case hdst => rfl); (case hd => rfl))
      | ((with_reducible have hB : (stats_Sum.f _ _).bind _ = some _ := H); clear hB; (replace H := bind_some' H); (obtain ⟨⟨t_0, t_1, t_2, t_3, t_4, t_5, t_6⟩, H1, H⟩ := H); (try dsimp only at H); (first | with_reducible apply ROps.call | with_reducible apply DOps.call); (case hop => rfl); (case hc => exact stats_Sum.ok H1); (case ha => exact argsX); (case hw => rfl); (case hdst => rfl); (case hd => rfl))
      | ((with_reducible apply Runs.retP tysOK); (case hrs => rfl); (case h => rfl); (case hr => (cases H; exact refX)); (case hx => rfl))
      | exact leRX
      | (refine Runs.code_eq (p' := .seq _ _) rfl ?_)
      | (refine Runs.code_eq (p' := .region _ _ _) rfl ?_)
      | (refine Runs.code_eq (p' := .cond _ _ _) rfl ?_)
      | (refine Runs.code_eq (p' := .block _ _) rfl ?_)
      | (refine Runs.code_eq (p' := .loop _) rfl ?_)
      | (refine Runs.code_eq (p' := .exit _) rfl ?_)
      | (refine Runs.code_eq (p' := .ret) rfl ?_)
      | (refine Runs.code_eq (p' := .skip) rfl ?_)
      | (refine Runs.code_eq (p' := .label _) rfl ?_)
      | (refine Runs.code_eq (p' := .scope _) rfl ?_))
  refine ⟨fun k => ?_, fun k h => (hs k h).2⟩
  induction k with
  | zero => intro _ _ _ _ H; rw [boarderlaw26_StatsSums.j0] at H; cases H
  | succ k ih => exact (hs k ih).1
theorem boarderlaw26_StatsSums.ok {k : Nat} {p0 : List (S25)} {p1 : List (S25)} {r0 : Bool} (H : boarderlaw26_StatsSums.f k p0 p1 = some r0) : CallOK Try.prog glo 3 [vS25 p0, vS25 p1] (.imm (.bool r0)) :=
  CallOK.of (c := boarderlaw26_StatsSums.cx) (p := bodyOf Try.f3) Try.func3 rfl rfl rfl (Nat.le_of_ble_eq_true rfl) rfl ((boarderlaw26_StatsSums.seg r0).2 k ((boarderlaw26_StatsSums.seg r0).1 k) p0 p1 H)
end Go.Proofs.Ytopbcamlagdieaa.PStats
set_option linter.unusedVariables false
set_option linter.unusedSimpArgs false
namespace Go.Proofs.Ytopbcamlagdieaa.PStats
open Go.RowKit Go.Proofs.YtopbcamlagdieaaW.PrintWords Go.Proofs.YtopbcamlagdieaaW.PrintLast Go.Proofs.YtopbcamlagdieaaW.PrintMore Go.Proofs.Ytopbcamlagdieaa.Abs
/-- What is to be shown of boarderlaw26_StatsSums, with no program in sight. -/
def boarderlaw26_StatsSums.Pure : Prop := ∀ (p0 : List (S25)) (p1 : List (S25)), (fun xs : List (S25) => xs.length ≤ maxLen ∧ ∀ x ∈ xs, ok25 x) p0 → (fun xs : List (S25) => xs.length ≤ maxLen ∧ ∀ x ∈ xs, ok25 x) p1 → ∃ k, boarderlaw26_StatsSums.f k p0 p1 = some true
theorem boarderlaw26_StatsSums.walk (P : boarderlaw26_StatsSums.Pure) (p0 : List (S25)) (p1 : List (S25)) (w : World) (ok_0 : (fun xs : List (S25) => xs.length ≤ maxLen ∧ ∀ x ∈ xs, ok25 x) p0) (ok_1 : (fun xs : List (S25) => xs.length ≤ maxLen ∧ ∀ x ∈ xs, ok25 x) p1) (A0 : Option Addr) (c0 : Nat) (hr0 : RepL w [vS25 p0] [.slice A0 p0.length c0]) (A1 : Option Addr) (c1 : Nat) (hr1 : RepL w [vS25 p1] [.slice A1 p1.length c1]) :
    Calls Try.prog 3 #[.slice A0 p0.length c0, .slice A1 p1.length c1] w fun e w' => e = .returned (.bool true) ∧ Below w.heap.size w w' := by
  obtain ⟨k, h⟩ := P p0 p1 ok_0 ok_1
  exact (boarderlaw26_StatsSums.ok h).law (vs := [.slice A0 p0.length c0, .slice A1 p1.length c1]) (fun _ => .any _) rfl (reps_cons (arg_one hr0) (reps_cons (arg_one hr1) reps_nil))
end Go.Proofs.Ytopbcamlagdieaa.PStats
set_option linter.unusedVariables false
set_option linter.unusedSimpArgs false
namespace Go.Proofs.Ytopbcamlagdieaa.PStats
open Go.RowKit Go.Proofs.YtopbcamlagdieaaW.PrintWords Go.Proofs.YtopbcamlagdieaaW.PrintLast Go.Proofs.YtopbcamlagdieaaW.PrintMore

/-! ### boarderlaw26.as -/
abbrev Sd := S27
/-- The program's counts as the document's. -/
def cst (x : St) : Sd := ⟨x.f0, x.f1, x.f2, x.f3, x.f4, x.f5, x.f6⟩
theorem boarderlaw26_as_s (l : List St) (hl : l.length ≤ 10000) : Ev (fun k => boarderlaw26_as.f k l) (l.map cst) := by
  have H : ∀ d i, i + d = l.length → Ev (fun k => boarderlaw26_as.l0 k l ((l.take i).map cst) (i : Int)) (l.map cst) := by
    intro d
    induction d with
    | zero =>
      intro i hi
      obtain rfl : i = l.length := by omega
      exact Ev.step (fun k => by show boarderlaw26_as.l0 (k + 1) _ _ _ = _; rw [boarderlaw26_as.l0, if_neg (by omega)]) (Ev.ret (by rw [List.take_length]))
    | succ d ih =>
      intro i hi
      have hi2 : i < l.length := by omega
      have h3 := ih (i + 1) (by omega)
      have eT : rd_T25 l (i : Int) = l[i] := rd_get hi2
      rw [List.take_succ_eq_append_getElem hi2, List.map_append] at h3
      refine Ev.step (fun k => by show boarderlaw26_as.l0 (k + 1) _ _ _ = _; rw [boarderlaw26_as.l0, if_pos (by omega), if_pos (by omega), if_pos (by rw [List.length_map, List.length_take]; omega), eT, wrap_next hi2 (by omega)]; rfl) h3
  exact H l.length 0 (by omega)

end Go.Proofs.Ytopbcamlagdieaa.PStats
set_option linter.unusedVariables false
set_option linter.unusedSimpArgs false
namespace Go.Proofs.Ytopbcamlagdieaa.PStats
open Go.RowKit Go.Proofs.YtopbcamlagdieaaW.PrintWords Go.Proofs.YtopbcamlagdieaaW.PrintLast Go.Proofs.YtopbcamlagdieaaW.PrintMore

/-! ### boarderref26.Sum -/
theorem boarderref26_Sum_j0 (l : List St) (i : Nat) (hi : i < l.length) (hl : l.length ≤ 10000) (v2 v3 v4 v5 v6 v8 : Int) {r : Int × Int × Int × Int × Int × Int × Int}
    (h : Ev (fun k => boarderref26_Sum.l0 k (l.map cst) v8 (wrap64 (v2 + l[i].f2)) (wrap64 (v3 + l[i].f3)) (wrap64 (v4 + l[i].f4)) (wrap64 (v5 + l[i].f5)) (wrap64 (v6 + l[i].f6)) ((i + 1 : Nat) : Int)) r) :
    Ev (fun k => boarderref26_Sum.j0 k (i : Int) (l.map cst) v2 v3 v4 v5 v6 v8) r := by
  have eT : rd_T27 (l.map cst) (i : Int) = cst l[i] := (rd_get (by rw [List.length_map]; exact hi)).trans (List.getElem_map _)
  exact Ev.step (fun k => by show boarderref26_Sum.j0 (k + 1) _ _ _ _ _ _ _ _ = _; rw [boarderref26_Sum.j0, if_pos (by omega), if_pos (by rw [List.length_map]; omega), eT, wrap_next hi (by omega)]; rfl) h
theorem boarderref26_Sum_s (l : List St) (hl : l.length ≤ 10000) : Ev (fun k => boarderref26_Sum.f k (l.map cst)) (sumA l) := by
  have H : ∀ d i, i + d = l.length → Ev (fun k => boarderref26_Sum.l0 k (l.map cst) (netN none (l.take i) : Int) (wrap64 ((l.take i).map (·.f2)).sum) (wrap64 ((l.take i).map (·.f3)).sum) (wrap64 ((l.take i).map (·.f4)).sum) (wrap64 ((l.take i).map (·.f5)).sum) (wrap64 ((l.take i).map (·.f6)).sum) (i : Int)) (sumA l) := by
    intro d
    induction d with
    | zero =>
      intro i hi
      obtain rfl : i = l.length := by omega
      refine Ev.step (fun k => by show boarderref26_Sum.l0 (k + 1) _ _ _ _ _ _ _ _ = _; rw [boarderref26_Sum.l0, if_neg (by rw [List.length_map]; omega)]) (Ev.ret ?_)
      rw [List.take_length, List.length_map]; rfl
    | succ d ih =>
      intro i hi
      have hi2 : i < l.length := by omega
      have h3 := ih (i + 1) (by omega)
      rw [← sum_take _ l i hi2, ← sum_take _ l i hi2, ← sum_take _ l i hi2, ← sum_take _ l i hi2, ← sum_take _ l i hi2] at h3
      have hN : netN none (l.take (i + 1)) = netN none (l.take i) + (if i = 0 then 1 else if (l.getD (i - 1) l[i]).f0 = l[i].f0 then 0 else 1) := by
        rw [List.take_succ_eq_append_getElem hi2, netN_snoc]
        congr 1
        cases i with
        | zero => simp
        | succ i => simp [List.getLast?_take, List.getD_eq_getElem?_getD, show i < l.length by omega]
      have hle : ∀ m : List St, ∀ p, netN p m ≤ m.length := by
        intro m
        induction m with
        | nil => intro p; simp [netN]
        | cons x m ih => intro p; rw [netN, List.length_cons]; have := ih (some x.f0); split <;> omega
      have hle := hle (l.take i) none
      rw [List.length_take] at hle
      have e2 : wrap64 ((netN none (l.take i) : Int) + 1) = ((netN none (l.take i) + 1 : Nat) : Int) := by unfold wrap64; omega
      have eT : rd_T27 (l.map cst) (i : Int) = cst l[i] := (rd_get (by rw [List.length_map]; exact hi2)).trans (List.getElem_map _)
      rw [hN] at h3
      refine Ev.step (fun k => by show boarderref26_Sum.l0 (k + 1) _ _ _ _ _ _ _ _ = _; rw [boarderref26_Sum.l0, if_pos (by rw [List.length_map]; omega), eT, e2]) ?_
      by_cases c : i = 0
      · rw [if_pos c] at h3
        exact Ev.pos (by omega) (boarderref26_Sum_j0 l i hi2 hl _ _ _ _ _ _ h3)
      · rw [if_neg c] at h3
        have e3 : wrap64 ((i : Int) - 1) = ((i - 1 : Nat) : Int) := by unfold wrap64; omega
        have eU : rd_T27 (l.map cst) ((i - 1 : Nat) : Int) = cst (l.getD (i - 1) l[i]) := by
          rw [show rd_T27 (l.map cst) ((i - 1 : Nat) : Int) = cst l[i - 1] from (rd_get (by rw [List.length_map]; omega)).trans (List.getElem_map _), List.getD_eq_getElem?_getD, List.getElem?_eq_getElem (by omega)]; rfl
        rw [e3, eU]
        refine Ev.neg (by omega) (Ev.pos (by omega) (Ev.pos (by omega) (Ev.pos (by rw [List.length_map]; omega) (Ev.ite' (fun c2 => ?_) (fun c2 => ?_)))))
        · rw [if_pos (show (l.getD (i - 1) l[i]).f0 = l[i].f0 from c2.symm)] at h3
          exact boarderref26_Sum_j0 l i hi2 hl _ _ _ _ _ _ h3
        · rw [if_neg (fun e : (l.getD (i - 1) l[i]).f0 = l[i].f0 => c2 e.symm)] at h3
          exact boarderref26_Sum_j0 l i hi2 hl _ _ _ _ _ _ h3
  have h0 := H l.length 0 (by omega)
  simp only [List.take_zero, List.map_nil, List.sum_nil, netN] at h0
  rw [show wrap64 0 = 0 by unfold wrap64; omega] at h0
  exact h0

end Go.Proofs.Ytopbcamlagdieaa.PStats
set_option linter.unusedVariables false
set_option linter.unusedSimpArgs false
namespace Go.Proofs.Ytopbcamlagdieaa.Pure
open Go.RowKit Go.Proofs.YtopbcamlagdieaaW.PrintWords Go.Proofs.YtopbcamlagdieaaW.PrintLast Go.Proofs.YtopbcamlagdieaaW.PrintMore Go.Proofs.Ytopbcamlagdieaa.PStats

theorem netN_append (m : List St) : ∀ (l : List St) (p : Option Int), netN p (l ++ m) = netN p l + netN ((l.getLast?.map (·.f0)).or p) m
  | [], p => by simp [netN]
  | y :: l, p => by
    rw [List.cons_append, netN, netN, netN_append m l (some y.f0), Nat.add_assoc]
    congr 3
    cases l with
    | nil => simp
    | cons z l => simp [List.getLast?_cons]
theorem wrap_both (x y : Int) : wrap64 (wrap64 x + wrap64 y) = wrap64 (x + y) := by rw [wrap_wrap, Int.add_comm, wrap_wrap, Int.add_comm]
theorem sum_both (g : St → Int) (l m : List St) : wrap64 ((l ++ m).map g).sum = wrap64 (wrap64 (l.map g).sum + wrap64 (m.map g).sum) := by
  rw [wrap_both, List.map_append, List.sum_append]
theorem netN_le : ∀ (l : List St) (p : Option Int), netN p l ≤ l.length
  | [], _ => Nat.le_refl _
  | x :: l, p => by
    have := netN_le l (some x.f0)
    rw [netN, List.length_cons]
    split <;> omega
theorem StatsSums_j0 (l m : List St) (hl : l.length ≤ 100) (hm : m.length ≤ 100) (v : Int) (hv : ((netN none (l ++ m) : Nat) : Int) = wrap64 (v + (netN none m : Int))) :
    Ev (fun k => boarderlaw26_StatsSums.j0 k (sumA (l ++ m)) (sumA m) (sumA l) v) true := by
  refine Ev.step (fun k => by show boarderlaw26_StatsSums.j0 (k + 1) _ _ _ _ = _; rw [boarderlaw26_StatsSums.j0]) ?_
  refine Ev.pos ⟨hv, ?_, sum_both _ _ _, sum_both _ _ _, sum_both _ _ _, sum_both _ _ _, sum_both _ _ _⟩ knows26
  show (((l ++ m).length : Nat) : Int) = wrap64 ((l.length : Int) + (m.length : Int))
  rw [List.length_append]
  unfold wrap64
  omega
theorem StatsSums : boarderlaw26_StatsSums.Pure := by
  intro l m _ _
  refine Ev.rounds (Ev.ite' (fun _ => knows26) (fun c1 => Ev.ite' (fun _ => knows26) (fun c2 => ?_)))
  have hl : l.length ≤ 100 := by omega
  have hm : m.length ≤ 100 := by omega
  have hlm : (l ++ m).length ≤ 10000 := by rw [List.length_append]; omega
  have one : ∀ x : St, Ev (fun k => boarderlaw26_as.f k [x]) [cst x] := fun x => boarderlaw26_as_s [x] (by simp)
  have al := boarderlaw26_as_s l (by omega)
  have am := boarderlaw26_as_s m (by omega)
  refine Ev.bind (stats_Sum_s l (by omega)) (Ev.bind (stats_Sum_s m (by omega)) (Ev.pos (by omega) (Ev.pos (by simp; omega) (Ev.bind (stats_Sum_s (l ++ m) hlm) ?_))))
  refine Ev.bind (one _) ?_
  refine Ev.pos (Nat.le_refl _) ?_
  refine Ev.pos (by simp) ?_
  refine Ev.bind al ?_
  refine Ev.bind (boarderref26_Sum_s l (by omega)) ?_
  refine Ev.pos ⟨rfl, rfl, rfl, rfl, rfl, rfl, rfl⟩ ?_
  refine Ev.bind (one _) ?_
  refine Ev.pos (by simp) ?_
  refine Ev.bind al ?_
  refine Ev.pos (by rw [List.length_map]; omega) ?_
  refine Ev.bind am ?_
  refine Ev.pos (by simp; omega) ?_
  refine Ev.bind (a := sumA (l ++ m)) (by rw [List.nil_append, ← List.map_append]; exact boarderref26_Sum_s (l ++ m) hlm) ?_
  refine Ev.pos ⟨rfl, rfl, rfl, rfl, rfl, rfl, rfl⟩ ?_
  have h1 := netN_append m l none
  have h2 := netN_le (l ++ m) none
  have h3 := netN_le l none
  rw [List.length_append] at h2
  cases l with
  | nil =>
    refine Ev.neg (by simp) (StatsSums_j0 [] m hl hm _ ?_)
    show ((netN none m : Nat) : Int) = wrap64 (0 + (netN none m : Int))
    simp at h2
    unfold wrap64
    omega
  | cons x l =>
    refine Ev.pos (by simp) ?_
    cases m with
    | nil =>
      refine Ev.neg (by simp) (StatsSums_j0 (x :: l) [] hl hm _ ?_)
      show ((netN none (x :: l ++ []) : Nat) : Int) = wrap64 ((netN none (x :: l) : Int) + 0)
      rw [List.append_nil]
      unfold wrap64
      omega
    | cons y m =>
      have hn : 0 < (x :: l).length := by simp
      have e : wrap64 (((x :: l).length : Int) - 1) = (((x :: l).length - 1 : Nat) : Int) := by unfold wrap64; omega
      refine Ev.pos (by simp) (Ev.pos (by rw [e]; omega) (Ev.pos (by rw [e]; omega) (Ev.pos (by simp) ?_)))
      have eR : rd_T25 (x :: l) (wrap64 (((x :: l).length : Int) - 1)) = (x :: l)[(x :: l).length - 1] := by rw [e]; exact rd_get (by omega)
      have eL : (x :: l).getLast? = some (x :: l)[(x :: l).length - 1] := by rw [List.getLast?_eq_getElem?, List.getElem?_eq_getElem (by omega)]
      rw [eL] at h1
      simp only [Option.map_some, Option.some_or] at h1
      have e1 : netN (some (x :: l)[(x :: l).length - 1].f0) (y :: m) = (if (x :: l)[(x :: l).length - 1].f0 = y.f0 then 0 else 1) + netN (some y.f0) m := by
        rw [netN]
        simp only [Option.some.injEq]
      have e2 : netN none (y :: m) = 1 + netN (some y.f0) m := by rw [netN]; simp
      have h4 := netN_le (y :: m) none
      rw [eR]
      refine Ev.ite' (fun c => StatsSums_j0 _ _ hl hm _ ?_) (fun c => StatsSums_j0 _ _ hl hm _ ?_)
      · rw [if_pos (show (x :: l)[(x :: l).length - 1].f0 = y.f0 from c)] at e1
        rw [show (sumA (x :: l)).1 = (netN none (x :: l) : Int) from rfl, wrap_wrap]
        unfold wrap64
        omega
      · rw [if_neg (show ¬ (x :: l)[(x :: l).length - 1].f0 = y.f0 from c)] at e1
        rw [show (sumA (x :: l)).1 = (netN none (x :: l) : Int) from rfl]
        unfold wrap64
        omega

end Go.Proofs.Ytopbcamlagdieaa.Pure
namespace Go.Proofs.Ytopbcamlagdieaa.statsSums
open Go.Proofs.Ytopbcamlagdieaa.PStats Go.Proofs.Ytopbcamlagdieaa.Abs Go.ChangeShapes Go.WideShapes Go.ChangeAt Go.RowKit
open Go.ChangeMaps (open_string shut_string)
open Go.Proofs.YtopbcamlagdieaaW.PrintWords
set_option linter.unusedVariables false
set_option linter.unusedSimpArgs false
theorem own : ownKnob Try.prog.godebug = none := by kernel_rfl
theorem laidOut : laidOutB Try.prog = true := by kernel_rfl
set_option maxRecDepth 100000 in
theorem lifted (os : Os) (started : os.Started) (H : Type) (enc : TypeId × Value → H) :
    ReturnsInHanded {} Try.checked os 3 .any (Rows.statsSumsSpec.pre6 enc Try.prog Try.f3 Rows.statsSumsRow.domain false) (Rows.statsSumsSpec.post enc Try.prog Try.f3 false true false false) := by
  refine returnsInHanded_of_change_sized (C := Try.checked) own started (by kernel_rfl) Try.func3
    (ChangeSpec.witness6 (enc := enc) (C := Try.checked) false ⟨#[], #[.slice none 0 0, .slice none 0 0], []⟩ 8 (by kernel_rfl) (by kernel_rfl) (by kernel_rfl) (by kernel_rfl)) ?_
  intro W base args ds gs before hval0 hW hcnd hsz0 _
  have hsz : (DataW.weightsEach Try.prog (Try.f3.params.toList ++ Rows.statsSumsSpec.plain.varTypes Try.prog) (ds ++ gs)).all (· ≤ reachBytes) = true := hsz0
  have hval : ∀ (j : Nat) t v, Try.f3.params[j]? = some t → args[j]? = some v → Value.okWide Try.prog W .any base t v := hval0
  have hW' := hW
  obtain ⟨p, q, hA0, hV, rfl, hfz, hnd⟩ := hW
  have hA : DataW.TrodAll enc Try.prog W 0 (fun _ => true) true Try.f3.params.toList args.toList ds p := hA0
  rw [Try.params3] at hA hval hsz
  obtain ⟨v0, vs0, d0, ds0, p0, q0, hargs, rfl, rfl, h0, r0⟩ := trodAll_cons hA
  obtain ⟨v1, vs1, d1, ds1, p1, q1, rfl, rfl, rfl, h1, r1⟩ := trodAll_cons r0
  obtain ⟨rfl, rfl, rfl⟩ := trodAll_nil r1
  obtain rfl : args = #[v0, v1] := by cases args; simp_all
  obtain ⟨rfl, rfl⟩ := trodVars_none hV
  have k0 := h0
  have lt0 : ∀ x ∈ p0, x.block < W.heap.size := by obtain ⟨m, hm⟩ := k0; exact DataW.trod_lt m _ _ _ hm
  obtain ⟨A0, n0, c0, rfl⟩ := okWide_slice Try.underlying22 (hval 0 22 v0 rfl rfl)
  obtain ⟨l0, hr0, ok_0⟩ : RaT (fun l : List (S25) => [vS25 l]) (fun xs : List (S25) => xs.length ≤ maxLen ∧ ∀ x ∈ xs, ok25 x) W [.slice A0 n0 c0] := by
    obtain ⟨fuel, hf⟩ := h0
    exact (ra_slice (d := eS25) (sz := 7) (z := z25) Try.underlying22 (by kernel_rfl) (fun _ => rfl) ra25) H enc W fuel _ _ hf
  obtain rfl : n0 = l0.length := (arg_one hr0).sl_len
  have k1 := h1
  have lt1 : ∀ x ∈ p1, x.block < W.heap.size := by obtain ⟨m, hm⟩ := k1; exact DataW.trod_lt m _ _ _ hm
  obtain ⟨A1, n1, c1, rfl⟩ := okWide_slice Try.underlying22 (hval 1 22 v1 rfl rfl)
  obtain ⟨l1, hr1, ok_1⟩ : RaT (fun l : List (S25) => [vS25 l]) (fun xs : List (S25) => xs.length ≤ maxLen ∧ ∀ x ∈ xs, ok25 x) W [.slice A1 n1 c1] := by
    obtain ⟨fuel, hf⟩ := h1
    exact (ra_slice (d := eS25) (sz := 7) (z := z25) Try.underlying22 (by kernel_rfl) (fun _ => rfl) ra25) H enc W fuel _ _ hf
  obtain rfl : n1 = l1.length := (arg_one hr1).sl_len
  clear hA0 hval0 hsz0 hsz
  refine (boarderlaw26_StatsSums.walk Pure.StatsSums l0 l1 W ok_0 ok_1 A0 c0 hr0 A1 c1 hr1).mono fun e W' ⟨he, bel⟩ => ?_
  subst he
  exact ⟨_, rfl, _, _, _, [], _, [], hW', trodAll_mk1 (shut_bool Try.underlying4 _), (trodAll_cons_mk (Below.trod laidOut (by kernel_rfl) (of_decide_eq_true (by kernel_rfl)) k0 bel lt0) (trodAll_cons_mk (Below.trod laidOut (by kernel_rfl) (of_decide_eq_true (by kernel_rfl)) k1 bel lt1) trodAll_mk0)), rfl, bel.frame _, fun h => by cases h⟩
theorem over : Rows.statsSumsRow.holds Try.pinned (OpenSpec.ofChange Rows.statsSumsSpec) :=
  OpenClaim.holds_of_wide 3 Try.f3 rfl rfl rfl rfl rfl rfl rfl ⟨rfl, rfl, rfl, rfl, rfl⟩ rfl rfl rfl rfl rfl (by kernel_rfl) Try.func3 (by kernel_rfl)
    (of_decide_eq_true (by kernel_rfl)) (by unfold Func.isWrapper; first | (rw [if_pos (by decide +kernel)]; kernel_rfl) | (rw [if_neg (by decide +kernel)]; exact ⟨rfl, rfl⟩))
    (fun os started H enc _ => lifted os started H enc)
theorem proved : Rows.StatsSumsSaid := over
#print axioms proved
end Go.Proofs.Ytopbcamlagdieaa.statsSums
