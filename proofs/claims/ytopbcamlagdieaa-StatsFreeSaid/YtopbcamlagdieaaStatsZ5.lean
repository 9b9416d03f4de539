/- What this claim rests on, part 5: abstract values, walks of the code over them, what the functions come to; each under its theorem's own conditions. -/
import Derived.Laws.BitsLemmas
import Derived.Laws.Entries
import Derived.RowKit
import Derived.Test.YtopbcamlagdieaaStatsZ4
set_option linter.unusedVariables false
set_option linter.unusedSimpArgs false
namespace Go.Proofs.Ytopbcamlagdieaa.PStats
open Go.RowKit Go.Proofs.YtopbcamlagdieaaW.PrintWords Go.Proofs.YtopbcamlagdieaaW.PrintLast Go.Proofs.YtopbcamlagdieaaW.PrintMore Go.Proofs.Ytopbcamlagdieaa.Abs
/-! ### conf_InPool: function 30 -/
mutual
def conf_InPool.l0 : Nat → Int → Int → List (S86) → Int → Int → Option (Bool)
  | 0, _, _, _, _, _ => none
  | k + 1, x1, x2, x12, x13, x14 => if x14 < x13 then (if 0 ≤ x14 then (if x14 < (x12.length : Int) then (conf_InPool.l1 k x1 x2 x12 x13 x14 ((rd_T86 x12 x14).f2.f2) (((rd_T86 x12 x14).f2.f2).length : Int) 0 ((rd_T86 x12 x14).f0) ((rd_T86 x12 x14).f1) ((rd_T86 x12 x14).f2.f0) ((rd_T86 x12 x14).f2.f1) ((rd_T86 x12 x14).f2.f2) ((rd_T86 x12 x14).f2.f3) ((rd_T86 x12 x14).f2.f4) ((rd_T86 x12 x14).f2.f5) ((rd_T86 x12 x14).f2.f6)) else (none)) else (none)) else (some false)
def conf_InPool.l1 : Nat → Int → Int → List (S86) → Int → Int → List (S76) → Int → Int → Int → Int → Int → Int → List (S76) → List (S65) → Int → Int → Int → Option (Bool)
  | 0, _, _, _, _, _, _, _, _, _, _, _, _, _, _, _, _, _ => none
  | k + 1, x1, x2, x12, x13, x14, x20, x21, x22, x295000, x295001, x295002, x295003, x295004, x295005, x295006, x295007, x295008 => if x22 < x21 then (if 0 ≤ x22 then (if x22 < (x20.length : Int) then (if x295000 = x1 then ((conf_has.f ((rd_T76 x20 x22).f0) ((rd_T76 x20 x22).f1) x2).bind fun t297 => (if t297 = true then (some true) else (conf_InPool.l1 k x1 x2 x12 x13 x14 x20 x21 (wrap64 (x22 + 1)) x295000 x295001 x295002 x295003 x295004 x295005 x295006 x295007 x295008))) else (conf_InPool.l1 k x1 x2 x12 x13 x14 x20 x21 (wrap64 (x22 + 1)) x295000 x295001 x295002 x295003 x295004 x295005 x295006 x295007 x295008)) else (none)) else (none)) else (conf_InPool.l0 k x1 x2 x12 x13 (wrap64 (x14 + 1)))
end
def conf_InPool.f (k : Nat) (a0_0 : Int) (a0_1 : Int) (l0_2 : List (S56)) (a1 : Int) (a2 : Int) : Option (Bool) := (conf_right.f k a0_0 a0_1 l0_2).bind fun t290 => (conf_InPool.l0 k a1 a2 t290 (t290.length : Int) 0)
noncomputable def conf_InPool.cx : Cx := ⟨Try.prog, tys, glo, 37, Try.f30, [.tmp 6], 0⟩
set_option maxHeartbeats 16000000 in
set_option maxRecDepth 100000 in
theorem conf_InPool.ok {k : Nat} {a0_0 : Int} {a0_1 : Int} {l0_2 : List (S56)} {a1 : Int} {a2 : Int} {r0 : Bool} (H : conf_InPool.f k a0_0 a0_1 l0_2 a1 a2 = some r0) : CallOK Try.prog glo 30 [.agg [.imm (.int .i64 a0_0), .imm (.int .i64 a0_1), vS56 l0_2], .imm (.int .i64 a1), .imm (.int .i64 a2)] (.imm (.bool r0)) := by
  unfold conf_InPool.f at H
  refine CallOK.of (c := conf_InPool.cx) Try.func30 (show (conf_InPool.cx).fn.body = some _ from rfl) rfl rfl (Nat.le_of_ble_eq_true rfl) rfl ?_
  repeat' (first
    | ((with_reducible replace H := some_ite H); obtain ⟨_, H⟩ := H)
    | (with_reducible replace H := true_ite H)
    | (with_reducible replace H := false_ite H)
    | ((with_reducible have hb := bool_ite H); clear H; rcases hb with ⟨e_, H⟩ | ⟨e_, H⟩ <;> subst e_)
    | ((with_reducible apply ROps.pure); (case hop => rfl); (case hw => rfl); (case hdst => rfl); (case hd => rfl))
    | (with_reducible apply ROps.nil)
    | (with_reducible apply Runs.seq)
    | (with_reducible apply Runs.region tysOK)
    | (with_reducible apply Runs.block)
    | (with_reducible apply Runs.skip)
    | (with_reducible apply Runs.inBlock)
    | (with_reducible apply Runs.scope)
    | (with_reducible apply Runs.inScope)
    | (with_reducible apply Runs.label)
    | ((with_reducible apply Runs.condT); (case ho => rfl))
    | ((with_reducible apply Runs.condF); (case ho => rfl))
    | ((with_reducible apply Runs.exit); (case he => rfl))
    | ((with_reducible apply ROps.store); (case hop => rfl); (case hp => rfl); (case hR => rfl); (case hc => rfl); (case hl => first | (dsimp only [setR_one, setR, Nat.beq, cond]; done) | (dsimp only [setR_one, setR, Nat.beq, cond]; rfl) | rfl); (case hl' => first | (dsimp only [List.take, List.drop, List.append, List.nil_append, List.cons_append, List.map, List.length, Nat.add]; rfl) | rfl); (case hw => rfl); (all_goals try rfl))
    | ((with_reducible apply ROps.cmp); (case hop => exact cmpX); (case hw => rfl); (case hdst => rfl); (case hd => rfl); (all_goals (intro h; first | (replace H := ite_pos_ h H) | (replace H := ite_neg_ h H) | (replace H := dec_pos h H) | (replace H := dec_neg h H) | (replace H := dec_t h H) | (replace H := dec_f h H) | (replace H := beq_pos h H) | (replace H := beq_neg h H) | (replace H := beq_tt h H) | (replace H := beq_ff h H) | (replace H := ite_pos_ (Decidable.not_not.1 h) H) | (replace H := beq_pos (Decidable.not_not.1 h) H) | (replace H := beq_tt (Decidable.not_not.1 h) H) | ((try simp only [rd_T76, rd_T86, rdOf] at h); (try simp only [rd_T76, rd_T86, rdOf] at H); (rw [decide_eq_true h] at H)) | ((try simp only [rd_T76, rd_T86, rdOf] at h); (try simp only [rd_T76, rd_T86, rdOf] at H); (rw [decide_eq_false h] at H)) | ((try simp only [rd_T76, rd_T86, rdOf] at h); (try simp only [rd_T76, rd_T86, rdOf] at H); (rw [beq_t h] at H)) | ((try simp only [rd_T76, rd_T86, rdOf] at h); (try simp only [rd_T76, rd_T86, rdOf] at H); (rw [beq_f h] at H)) | ((try simp only [rd_T76, rd_T86, rdOf] at h); (try simp only [rd_T76, rd_T86, rdOf] at H); (rw [bne_t h] at H)) | ((try simp only [rd_T76, rd_T86, rdOf] at h); (try simp only [rd_T76, rd_T86, rdOf] at H); (rw [bne_f h] at H)) | ((try simp only [rd_T76, rd_T86, rdOf] at h); (try simp only [rd_T76, rd_T86, rdOf] at H); (rw [beq_t (Decidable.not_not.1 h)] at H)) | ((try simp only [rd_T76, rd_T86, rdOf] at h); (try simp only [rd_T76, rd_T86, rdOf] at H); (rw [bne_f (Decidable.not_not.1 h)] at H)) | ((try simp only [rd_T76, rd_T86, rdOf] at h); (try simp only [rd_T76, rd_T86, rdOf] at H); (rw [if_pos h] at H)) | ((try simp only [rd_T76, rd_T86, rdOf] at h); (try simp only [rd_T76, rd_T86, rdOf] at H); (rw [if_neg h] at H)) | contradiction | skip)))
    | ((with_reducible apply ROps.val); (case hop => exact valX); (case hw => rfl); (case hdst => rfl); (case hd => rfl))
    | ((first | (with_reducible apply ROps.eqS; case hop => rfl) | (with_reducible apply ROps.neS; case hop => rfl)); (case ht => rfl); (case hx => rfl); (case hy => rfl); (case hl => rfl); (case hr => rfl); (case hw => rfl); (case hdst => rfl); (case hd => rfl); (all_goals (intro h; first | (replace H := ite_posF H h) | (replace H := ite_negF H h) | (dsimp only [eqP, eqA] at h) | skip)))
    | ((with_reducible apply ROps.idx); (case hop => rfl); (case hx => rfl); (case hi => rfl); (case he => rfl); (case hw => rfl); (case hdst => rfl); (case hd => rfl); (case h0 => first | assumption | omega); (case h1 => first | assumption | omega))
    | ((with_reducible apply ROps.alloc); (case hop => rfl); (case hw => rfl); (all_goals try rfl))
    | ((with_reducible apply ROps.box); (case hop => rfl); (case hx => rfl); (case hrf => rfl); (case hw => rfl); (all_goals try rfl))
    | ((with_reducible apply ROps.off); (case hw => rfl); (case hdst => rfl); (case hd => rfl))
    | ((with_reducible have hB : (conf_right.f _ _ _ _).bind _ = some _ := H); clear hB; (replace H := bind_some' H); (obtain ⟨t_, H1, H⟩ := H); (try dsimp only at H); (with_reducible apply ROps.call); (case hop => rfl); (case hc => exact conf_right.ok H1); (case ha => exact argsX); (case hw => rfl); (case hdst => rfl); (case hd => rfl))
    | ((with_reducible have hB : (conf_has.f _ _ _).bind _ = some _ := H); clear hB; (replace H := bind_some' H); (obtain ⟨t_, H1, H⟩ := H); (try dsimp only at H); (with_reducible apply ROps.call); (case hop => rfl); (case hc => exact conf_has.ok H1); (case ha => exact argsX); (case hw => rfl); (case hdst => rfl); (case hd => rfl))
    | ((with_reducible apply Runs.loopK1 ((fun i0 i1 i2 i3 => fun kk (v0_14 : Int) => conf_InPool.l0 kk i0 i1 i2 i3 v0_14) _ _ _ _) [1, 2, 12, 13] [] (fun b v0_14 => [(14, .imm (.int .i64 v0_14))]) (fun v0_14 => []) _ _ [] H); (case h0 => intros; rfl); (any_goals (clear H; intro k0 hk0 ih0 v0_14 H; replace H : conf_InPool.l0 (k0 + 1) _ _ _ _ v0_14 = some _ := H; rw [conf_InPool.l0] at H)))
    | (with_reducible apply ih0 _ _ [] _ _ (by omega) H)
    | ((with_reducible apply Runs.loopK1 ((fun i0 i1 i2 i3 i4 i5 i6 i7 i8 i9 i10 i11 i12 i13 i14 i15 => fun kk (v1_22 : Int) => conf_InPool.l1 kk i0 i1 i2 i3 i4 i5 i6 v1_22 i7 i8 i9 i10 i11 i12 i13 i14 i15) _ _ _ _ _ _ _ _ _ _ _ _ _ _ _ _) [1, 2, 8, 12, 13, 14, 20, 21] [] (fun b v1_22 => [(22, .imm (.int .i64 v1_22))]) (fun v1_22 => []) _ _ [] H); (case h0 => intros; rfl); (any_goals (clear H; intro k1 hk1 ih1 v1_22 H; replace H : conf_InPool.l1 (k1 + 1) _ _ _ _ _ _ _ v1_22 _ _ _ _ _ _ _ _ _ = some _ := H; rw [conf_InPool.l1] at H)))
    | (with_reducible apply ih1 _ _ [] _ _ (by omega) H)
    | ((with_reducible apply Runs.retP tysOK); (case hrs => rfl); (case h => rfl); (case hr => (cases H; exact refX)); (case hx => rfl))
    | exact leRX)
end Go.Proofs.Ytopbcamlagdieaa.PStats
set_option linter.unusedVariables false
set_option linter.unusedSimpArgs false
namespace Go.Proofs.Ytopbcamlagdieaa.PStats
open Go.RowKit Go.Proofs.YtopbcamlagdieaaW.PrintWords Go.Proofs.YtopbcamlagdieaaW.PrintLast Go.Proofs.YtopbcamlagdieaaW.PrintMore Go.Proofs.Ytopbcamlagdieaa.Abs
/-! ### queue_counts: function 52 -/
def queue_counts.f (a0_0 : Int) (a0_1 : Int) (a0_2 : Int) (a0_3 : ByteArray) (a1 : Int) : Option (Bool) := (table_Holds.f a0_0 a0_1 a0_2 a0_3 a1).bind fun t299 => (if t299 = true then (some true) else ((table_Rests.f a0_0 a0_1 a0_2 a0_3 a1).bind fun t300 => (some t300)))
noncomputable def queue_counts.cx : Cx := ⟨Try.prog, tys, glo, 13, Try.f52, [.tmp 4], 0⟩
set_option maxHeartbeats 16000000 in
set_option maxRecDepth 100000 in
theorem queue_counts.ok {a0_0 : Int} {a0_1 : Int} {a0_2 : Int} {a0_3 : ByteArray} {a1 : Int} {r0 : Bool} (H : queue_counts.f a0_0 a0_1 a0_2 a0_3 a1 = some r0) : CallOK Try.prog glo 52 [.agg [.imm (.int .i64 a0_0), .imm (.int .i64 a0_1), .imm (.int .i64 a0_2), .imm (.string a0_3)], .imm (.int .i64 a1)] (.imm (.bool r0)) := by
  unfold queue_counts.f at H
  refine CallOK.of (c := queue_counts.cx) Try.func52 (show (queue_counts.cx).fn.body = some _ from rfl) rfl rfl (Nat.le_of_ble_eq_true rfl) rfl ?_
  repeat' (first
    | ((with_reducible replace H := some_ite H); obtain ⟨_, H⟩ := H)
    | (with_reducible replace H := some_bind_ H)
    | (with_reducible replace H := true_ite H)
    | (with_reducible replace H := false_ite H)
    | ((with_reducible have hb := bool_ite H); clear H; rcases hb with ⟨e_, H⟩ | ⟨e_, H⟩ <;> subst e_)
    | ((with_reducible apply ROps.pure); (case hop => rfl); (case hw => rfl); (case hdst => rfl); (case hd => rfl))
    | (with_reducible apply ROps.nil)
    | (with_reducible apply Runs.seq)
    | (with_reducible apply Runs.region tysOK)
    | (with_reducible apply Runs.scope)
    | (with_reducible apply Runs.inScope)
    | (with_reducible apply Runs.label)
    | ((with_reducible apply ROps.box); (case hop => rfl); (case hx => rfl); (case hrf => rfl); (case hw => rfl); (all_goals try rfl))
    | ((with_reducible apply ROps.off); (case hw => rfl); (case hdst => rfl); (case hd => rfl))
    | ((with_reducible have hB : (table_Holds.f _ _ _ _ _).bind _ = some _ := H); clear hB; (replace H := bind_some' H); (obtain ⟨t_, H1, H⟩ := H); (try dsimp only at H); (with_reducible apply ROps.call); (case hop => rfl); (case hc => exact table_Holds.ok H1); (case ha => exact argsX); (case hw => rfl); (case hdst => rfl); (case hd => rfl))
    | ((with_reducible have hB : (table_Rests.f _ _ _ _ _).bind _ = some _ := H); clear hB; (replace H := bind_some' H); (obtain ⟨t_, H1, H⟩ := H); (try dsimp only at H); (with_reducible apply ROps.call); (case hop => rfl); (case hc => exact table_Rests.ok H1); (case ha => exact argsX); (case hw => rfl); (case hdst => rfl); (case hd => rfl))
    | ((with_reducible apply Runs.retP tysOK); (case hrs => rfl); (case h => rfl); (case hr => (cases H; exact refX)); (case hx => rfl))
    | exact leRX)
end Go.Proofs.Ytopbcamlagdieaa.PStats
set_option linter.unusedVariables false
set_option linter.unusedSimpArgs false
namespace Go.Proofs.Ytopbcamlagdieaa.PStats
open Go.RowKit Go.Proofs.YtopbcamlagdieaaW.PrintWords Go.Proofs.YtopbcamlagdieaaW.PrintLast Go.Proofs.YtopbcamlagdieaaW.PrintMore Go.Proofs.Ytopbcamlagdieaa.Abs
/-! ### queue_Until: function 31 -/
def queue_Until.f (k : Nat) (l0 : List (S68)) (a1 : Int) (a2 : Int) : Option (Int) := (table_Get.f k l0 a1).bind fun bt301 => (if bt301.2.2.2.2 = true then ((queue_counts.f bt301.1 bt301.2.1 bt301.2.2.1 bt301.2.2.2.1 a2).bind fun t307 => (if t307 = true then (some (wrap64 (bt301.2.2.1 - a2))) else (some 0))) else (some 0))
noncomputable def queue_Until.cx : Cx := ⟨Try.prog, tys, glo, 27, Try.f31, [.tmp 6], 0⟩
set_option maxHeartbeats 16000000 in
set_option maxRecDepth 100000 in
theorem queue_Until.ok {k : Nat} {l0 : List (S68)} {a1 : Int} {a2 : Int} {r0 : Int} (H : queue_Until.f k l0 a1 a2 = some r0) : CallOK Try.prog glo 31 [vS68 l0, .imm (.int .i64 a1), .imm (.int .i64 a2)] (.imm (.int .i64 r0)) := by
  unfold queue_Until.f at H
  refine CallOK.of (c := queue_Until.cx) Try.func31 (show (queue_Until.cx).fn.body = some _ from rfl) rfl rfl (Nat.le_of_ble_eq_true rfl) rfl ?_
  repeat' (first
    | ((with_reducible replace H := some_ite H); obtain ⟨_, H⟩ := H)
    | (with_reducible replace H := true_ite H)
    | (with_reducible replace H := false_ite H)
    | ((with_reducible have hb := bool_ite H); clear H; rcases hb with ⟨e_, H⟩ | ⟨e_, H⟩ <;> subst e_)
    | ((with_reducible apply ROps.pure); (case hop => rfl); (case hw => rfl); (case hdst => rfl); (case hd => rfl))
    | (with_reducible apply ROps.nil)
    | (with_reducible apply Runs.seq)
    | (with_reducible apply Runs.region tysOK)
    | (with_reducible apply Runs.skip)
    | (with_reducible apply Runs.scope)
    | (with_reducible apply Runs.inScope)
    | (with_reducible apply Runs.label)
    | ((with_reducible apply Runs.condT); (case ho => rfl))
    | ((with_reducible apply Runs.condF); (case ho => rfl))
    | ((with_reducible apply ROps.store); (case hop => rfl); (case hp => rfl); (case hR => rfl); (case hc => rfl); (case hl => first | (dsimp only [setR_one, setR, Nat.beq, cond]; done) | (dsimp only [setR_one, setR, Nat.beq, cond]; rfl) | rfl); (case hl' => first | (dsimp only [List.take, List.drop, List.append, List.nil_append, List.cons_append, List.map, List.length, Nat.add]; rfl) | rfl); (case hw => rfl); (all_goals try rfl))
    | ((with_reducible apply ROps.val); (case hop => exact valX); (case hw => rfl); (case hdst => rfl); (case hd => rfl))
    | ((with_reducible apply ROps.alloc); (case hop => rfl); (case hw => rfl); (all_goals try rfl))
    | ((with_reducible apply ROps.off); (case hw => rfl); (case hdst => rfl); (case hd => rfl))
    | ((with_reducible have hB : (table_Get.f _ _ _).bind _ = some _ := H); clear hB; (replace H := bind_some' H); (obtain ⟨⟨t_0, t_1, t_2, t_3, t_4⟩, H1, H⟩ := H); (try dsimp only at H); (with_reducible apply ROps.call); (case hop => rfl); (case hc => exact table_Get.ok H1); (case ha => exact argsX); (case hw => rfl); (case hdst => rfl); (case hd => rfl))
    | ((with_reducible have hB : (queue_counts.f _ _ _ _ _).bind _ = some _ := H); clear hB; (replace H := bind_some' H); (obtain ⟨t_, H1, H⟩ := H); (try dsimp only at H); (with_reducible apply ROps.call); (case hop => rfl); (case hc => exact queue_counts.ok H1); (case ha => exact argsX); (case hw => rfl); (case hdst => rfl); (case hd => rfl))
    | ((with_reducible apply Runs.retP tysOK); (case hrs => rfl); (case h => rfl); (case hr => (cases H; exact refX)); (case hx => rfl))
    | exact leRX)
end Go.Proofs.Ytopbcamlagdieaa.PStats
set_option linter.unusedVariables false
set_option linter.unusedSimpArgs false
namespace Go.Proofs.Ytopbcamlagdieaa.PStats
open Go.RowKit Go.Proofs.YtopbcamlagdieaaW.PrintWords Go.Proofs.YtopbcamlagdieaaW.PrintLast Go.Proofs.YtopbcamlagdieaaW.PrintMore Go.Proofs.Ytopbcamlagdieaa.Abs
/-! ### stats_Wait: function 15 -/
mutual
def stats_Wait.l0 : Nat → List (S25) × Int → Int → List (S68) → Int → Int → List (S56) → Int → Int → Option (Int × Bool)
  | 0, _, _, _, _, _, _, _, _ => none
  | k + 1, b1, p2, p1, p0_0, p0_1, p0_2, p3, v2 => (if v2 < (b1.1.length : Int) then (if 0 ≤ v2 then (if (rd_T25 b1.1 v2).f0 = p2 then (if (rd_T25 b1.1 v2).f6 > 0 then (some (0, true)) else (stats_Wait.l0 k b1 p2 p1 p0_0 p0_1 p0_2 p3 (wrap64 (v2 + 1)))) else (stats_Wait.l0 k b1 p2 p1 p0_0 p0_1 p0_2 p3 (wrap64 (v2 + 1)))) else none) else (stats_Wait.l1 k p1 p0_0 p0_1 p0_2 p3 p2 0 0 0 (⟨#[]⟩ : ByteArray) 0))
def stats_Wait.l1 : Nat → List (S68) → Int → Int → List (S56) → Int → Int → Int → Int → Int → ByteArray → Int → Option (Int × Bool)
  | 0, _, _, _, _, _, _, _, _, _, _, _ => none
  | k + 1, p1, p0_0, p0_1, p0_2, p3, p2, v3, v4, v5, v6, v7 => (if v7 < (p1.length : Int) then (if 0 ≤ v7 then ((conf_Keeper.f k p0_0 p0_1 p0_2 ((rd_T68 p1 v7).f0)).bind fun b9 => (if (!b9.2) = true then ((stats_counts.f ((rd_T68 p1 v7).f0) ((rd_T68 p1 v7).f1) ((rd_T68 p1 v7).f2) ((rd_T68 p1 v7).f3) p3).bind fun t10 => (if t10 = true then ((conf_InPool.f k p0_0 p0_1 p0_2 p2 ((rd_T68 p1 v7).f0)).bind fun t11 => (if t11 = true then (if v4 = 0 then (stats_Wait.l1 k p1 p0_0 p0_1 p0_2 p3 p2 ((rd_T68 p1 v7).f0) ((rd_T68 p1 v7).f1) ((rd_T68 p1 v7).f2) ((rd_T68 p1 v7).f3) (wrap64 (v7 + 1))) else (if (rd_T68 p1 v7).f2 < v5 then (stats_Wait.l1 k p1 p0_0 p0_1 p0_2 p3 p2 ((rd_T68 p1 v7).f0) ((rd_T68 p1 v7).f1) ((rd_T68 p1 v7).f2) ((rd_T68 p1 v7).f3) (wrap64 (v7 + 1))) else (stats_Wait.l1 k p1 p0_0 p0_1 p0_2 p3 p2 v3 v4 v5 v6 (wrap64 (v7 + 1))))) else (stats_Wait.l1 k p1 p0_0 p0_1 p0_2 p3 p2 v3 v4 v5 v6 (wrap64 (v7 + 1))))) else (stats_Wait.l1 k p1 p0_0 p0_1 p0_2 p3 p2 v3 v4 v5 v6 (wrap64 (v7 + 1))))) else (stats_Wait.l1 k p1 p0_0 p0_1 p0_2 p3 p2 v3 v4 v5 v6 (wrap64 (v7 + 1))))) else none) else (if v4 = 0 then (some (0, false)) else ((queue_Until.f k p1 v3 p3).bind fun t8 => (some (t8, true)))))
end
def stats_Wait.f (k : Nat) (p0_0 : Int) (p0_1 : Int) (p0_2 : List (S56)) (p1 : List (S68)) (p2 : Int) (p3 : Int) : Option (Int × Bool) := ((stats_Count.f k p0_0 p0_1 p0_2 p1 p3).bind fun b1 => (if b1.2 = 0 then (if p2 < 0 then (some (0, false)) else (if p2 ≥ (p0_2.length : Int) then (some (0, false)) else (stats_Wait.l0 k b1 p2 p1 p0_0 p0_1 p0_2 p3 0))) else (some (0, false))))
noncomputable def stats_Wait.cx : Cx := ⟨Try.prog, tys, glo, 104, Try.f15, [.tmp 8, .tmp 9], 0⟩
def stats_Wait.Sl0 (r0 : Int) (r1 : Bool) (k : Nat) : Prop := ∀ (b1 : List (S25) × Int) (p2 : Int) (p1 : List (S68)) (p0_0 : Int) (p0_1 : Int) (p0_2 : List (S56)) (p3 : Int) (v2 : Int), stats_Wait.l0 k b1 p2 p1 p0_0 p0_1 p0_2 p3 v2 = some (r0, r1) → Runs stats_Wait.cx (Pur (.tup [.imm (.int .i64 r0), .imm (.bool r1)])) [.code (cP (bodyOf Try.f15) [1, 1, 1, 0, 1, 0, 0]), .inLoop (cP (bodyOf Try.f15) [1, 1, 1, 0, 1, 0, 0]), .inBlock 0, .code (cP (bodyOf Try.f15) [1, 1, 1, 1])] (overF none_ [(1, vS68 p1), (2, .imm (.int .i64 p2)), (3, .imm (.int .i64 p3)), (39, vS25 (b1.1)), (4, .ptr [.imm (.int .i64 p0_0), .imm (.int .i64 p0_1), vS56 p0_2]), (40, .imm (.int .i64 (b1.1.length : Int))), (41, .imm (.int .i64 v2))]) []
def stats_Wait.Sl1 (r0 : Int) (r1 : Bool) (k : Nat) : Prop := ∀ (p1 : List (S68)) (p0_0 : Int) (p0_1 : Int) (p0_2 : List (S56)) (p3 : Int) (p2 : Int) (v3 : Int) (v4 : Int) (v5 : Int) (v6 : ByteArray) (v7 : Int), stats_Wait.l1 k p1 p0_0 p0_1 p0_2 p3 p2 v3 v4 v5 v6 v7 = some (r0, r1) → Runs stats_Wait.cx (Pur (.tup [.imm (.int .i64 r0), .imm (.bool r1)])) [.code (cP (bodyOf Try.f15) [1, 1, 1, 1, 1, 0, 1, 0, 0]), .inLoop (cP (bodyOf Try.f15) [1, 1, 1, 1, 1, 0, 1, 0, 0]), .inBlock 2, .code (cP (bodyOf Try.f15) [1, 1, 1, 1, 1, 1])] (overF none_ [(1, vS68 p1), (14, .loc 0 0 0), (2, .imm (.int .i64 p2)), (3, .imm (.int .i64 p3)), (4, .ptr [.imm (.int .i64 p0_0), .imm (.int .i64 p0_1), vS56 p0_2]), (55, vS68 p1), (56, .imm (.int .i64 (p1.length : Int))), (57, .imm (.int .i64 v7))]) [.mat 1 4 (fun _ => [.imm (.int .i64 v3), .imm (.int .i64 v4), .imm (.int .i64 v5), .imm (.string v6)])]
def stats_Wait.Sf (r0 : Int) (r1 : Bool) (k : Nat) : Prop := ∀ (p0_0 : Int) (p0_1 : Int) (p0_2 : List (S56)) (p1 : List (S68)) (p2 : Int) (p3 : Int), stats_Wait.f k p0_0 p0_1 p0_2 p1 p2 p3 = some (r0, r1) → Runs stats_Wait.cx (Pur (.tup [.imm (.int .i64 r0), .imm (.bool r1)])) [.code (bodyOf Try.f15)] (frame0 [.agg [.imm (.int .i64 p0_0), .imm (.int .i64 p0_1), vS56 p0_2], vS68 p1, .imm (.int .i64 p2), .imm (.int .i64 p3)]) []
set_option maxHeartbeats 64000000 in
set_option maxRecDepth 100000 in
theorem stats_Wait.seg (r0 : Int) (r1 : Bool) : (∀ k, stats_Wait.Sl0 r0 r1 k ∧ stats_Wait.Sl1 r0 r1 k) ∧ ∀ k, (stats_Wait.Sl0 r0 r1 k ∧ stats_Wait.Sl1 r0 r1 k) → stats_Wait.Sf r0 r1 k := by
  have hs : ∀ k, (stats_Wait.Sl0 r0 r1 k ∧ stats_Wait.Sl1 r0 r1 k) → (stats_Wait.Sl0 r0 r1 (k + 1) ∧ stats_Wait.Sl1 r0 r1 (k + 1)) ∧ stats_Wait.Sf r0 r1 k := by
    intro k h
    obtain ⟨h_l0, h_l1⟩ := h
    refine ⟨⟨?_, ?_⟩, ?_⟩
    (intro b1 p2 p1 p0_0 p0_1 p0_2 p3 v2 H; obtain ⟨b1_0, b1_1⟩ := b1; rw [stats_Wait.l0] at H; try dsimp only at H)
    rotate_left
    (intro p1 p0_0 p0_1 p0_2 p3 p2 v3 v4 v5 v6 v7 H; rw [stats_Wait.l1] at H; try dsimp only at H)
    rotate_left
    (intro p0_0 p0_1 p0_2 p1 p2 p3 H; unfold stats_Wait.f at H; try dsimp only at H)
    rotate_left
    repeat' (first
      | ((with_reducible have hJ : stats_Wait.l0 _ _ _ _ _ _ _ _ _ = some _ := H); clear hJ; (with_reducible apply Runs.loop); (apply Runs.le [] (h_l0 _ _ _ _ _ _ _ _ H)))
      | ((with_reducible have hJ : stats_Wait.l0 _ _ _ _ _ _ _ _ _ = some _ := H); clear hJ; (with_reducible apply Runs.inLoop); (apply Runs.le [] (h_l0 _ _ _ _ _ _ _ _ H)))
      | ((with_reducible have hJ : stats_Wait.l1 _ _ _ _ _ _ _ _ _ _ _ _ = some _ := H); clear hJ; (with_reducible apply Runs.loop); (apply Runs.le [_] (h_l1 _ _ _ _ _ _ _ _ _ _ _ H)))
      | ((with_reducible have hJ : stats_Wait.l1 _ _ _ _ _ _ _ _ _ _ _ _ = some _ := H); clear hJ; (with_reducible apply Runs.inLoop); (apply Runs.le [_] (h_l1 _ _ _ _ _ _ _ _ _ _ _ H)))
      | ((with_reducible replace H := some_ite H); obtain ⟨_, H⟩ := H)
      | (with_reducible replace H := some_bind_ H)
      | (with_reducible replace H := true_ite H)
      | (with_reducible replace H := false_ite H)
      | ((with_reducible have hb := bool_ite H); clear H; rcases hb with ⟨e_, H⟩ | ⟨e_, H⟩ <;> subst e_)
      | ((with_reducible have hb := bool_iteN H); clear H; rcases hb with ⟨e_, H⟩ | ⟨e_, H⟩ <;> subst e_)
      | ((with_reducible apply ROps.pure); (case hop => rfl); (case hw => rfl); (case hdst => rfl); (case hd => rfl))
      | (with_reducible apply ROps.nil)
      | (with_reducible apply Runs.seq)
      | (with_reducible apply Runs.region tysOK)
      | (with_reducible apply Runs.block)
      | (with_reducible apply Runs.skip)
      | (with_reducible apply Runs.inBlock)
      | (with_reducible apply Runs.scope)
      | (with_reducible apply Runs.inScope)
      | (with_reducible apply Runs.label)
      | ((with_reducible apply Runs.condT); (case ho => rfl))
      | ((with_reducible apply Runs.condF); (case ho => rfl))
      | ((with_reducible apply Runs.exit); (case he => rfl))
      | ((with_reducible apply ROps.store); (case hop => rfl); (case hp => rfl); (case hR => rfl); (case hc => rfl); (case hl => first | (dsimp only [setR_one, setR, Nat.beq, cond]; done) | (dsimp only [setR_one, setR, Nat.beq, cond]; rfl) | rfl); (case hl' => first | (dsimp only [List.take, List.drop, List.append, List.nil_append, List.cons_append, List.map, List.length, Nat.add]; rfl) | rfl); (case hw => rfl); (all_goals try rfl))
      | ((with_reducible apply ROps.cmp); (case hop => exact cmpX); (case hw => rfl); (case hdst => rfl); (case hd => rfl); (all_goals (intro h; first | (replace H := ite_pos_ h H) | (replace H := ite_neg_ h H) | (replace H := ite_pos_ (Decidable.not_not.1 h) H) | ((try simp only [rd_T25, rd_T68, rdOf] at h); (try simp only [rd_T25, rd_T68, rdOf] at H); (rw [if_pos h] at H)) | ((try simp only [rd_T25, rd_T68, rdOf] at h); (try simp only [rd_T25, rd_T68, rdOf] at H); (rw [if_neg h] at H)) | contradiction | skip)))
      | ((with_reducible apply ROps.val); (case hop => exact valX); (case hw => rfl); (case hdst => rfl); (case hd => rfl))
      | ((first | (with_reducible apply ROps.eqS; case hop => rfl) | (with_reducible apply ROps.neS; case hop => rfl)); (case ht => rfl); (case hx => rfl); (case hy => rfl); (case hl => rfl); (case hr => rfl); (case hw => rfl); (case hdst => rfl); (case hd => rfl); (all_goals (intro h; first | (replace H := ite_posF H h) | (replace H := ite_negF H h) | (dsimp only [eqP, eqA] at h) | skip)))
      | ((with_reducible apply ROps.idx); (case hop => rfl); (case hx => rfl); (case hi => rfl); (case he => rfl); (case hw => rfl); (case hdst => rfl); (case hd => rfl); (case h0 => first | assumption | omega); (case h1 => first | assumption | omega))
      | ((with_reducible apply ROps.alloc); (case hop => rfl); (case hw => rfl); (all_goals try rfl))
      | ((with_reducible apply ROps.box); (case hop => rfl); (case hx => rfl); (case hrf => rfl); (case hw => rfl); (all_goals try rfl))
      | ((with_reducible apply ROps.off); (case hw => rfl); (case hdst => rfl); (case hd => rfl))
      | ((with_reducible have hB : (conf_InPool.f _ _ _ _ _ _).bind _ = some _ := H); clear hB; (replace H := bind_some' H); (obtain ⟨t_, H1, H⟩ := H); (try dsimp only at H); (with_reducible apply ROps.call); (case hop => rfl); (case hc => exact conf_InPool.ok H1); (case ha => exact argsX); (case hw => rfl); (case hdst => rfl); (case hd => rfl))
      | ((with_reducible have hB : (conf_Keeper.f _ _ _ _ _).bind _ = some _ := H); clear hB; (replace H := bind_some' H); (obtain ⟨⟨t_0, t_1⟩, H1, H⟩ := H); (try dsimp only at H); (with_reducible apply ROps.call); (case hop => rfl); (case hc => exact conf_Keeper.ok H1); (case ha => exact argsX); (case hw => rfl); (case hdst => rfl); (case hd => rfl))
      | ((with_reducible have hB : (queue_Until.f _ _ _ _).bind _ = some _ := H); clear hB; (replace H := bind_some' H); (obtain ⟨t_, H1, H⟩ := H); (try dsimp only at H); (with_reducible apply ROps.call); (case hop => rfl); (case hc => exact queue_Until.ok H1); (case ha => exact argsX); (case hw => rfl); (case hdst => rfl); (case hd => rfl))
      | ((with_reducible have hB : (stats_Count.f _ _ _ _ _ _).bind _ = some _ := H); clear hB; (replace H := bind_some' H); (obtain ⟨⟨t_0, t_1⟩, H1, H⟩ := H); (try dsimp only at H); (with_reducible apply ROps.call); (case hop => rfl); (case hc => exact stats_Count.ok H1); (case ha => exact argsX); (case hw => rfl); (case hdst => rfl); (case hd => rfl))
      | ((with_reducible have hB : (stats_counts.f _ _ _ _ _).bind _ = some _ := H); clear hB; (replace H := bind_some' H); (obtain ⟨t_, H1, H⟩ := H); (try dsimp only at H); (with_reducible apply ROps.call); (case hop => rfl); (case hc => exact stats_counts.ok H1); (case ha => exact argsX); (case hw => rfl); (case hdst => rfl); (case hd => rfl))
      | ((with_reducible apply Runs.retP tysOK); (case hrs => rfl); (case h => rfl); (case hr => (cases H; exact refX)); (case hx => rfl))
      | exact leRX
      | (refine Runs.code_eq (p' := .seq _ _) rfl ?_)
      | (refine Runs.code_eq (p' := .region _ _ _) rfl ?_)
      | (refine Runs.code_eq (p' := .cond _ _ _) rfl ?_)
      | (refine Runs.code_eq (p' := .block _ _) rfl ?_)
      | (refine Runs.code_eq (p' := .loop _) rfl ?_)
      | (refine Runs.code_eq (p' := .exit _) rfl ?_)
      | (refine Runs.code_eq (p' := .ret) rfl ?_)
      | (refine Runs.code_eq (p' := .skip) rfl ?_)
      | (refine Runs.code_eq (p' := .label _) rfl ?_)
      | (refine Runs.code_eq (p' := .scope _) rfl ?_))
  refine ⟨fun k => ?_, fun k h => (hs k h).2⟩
  induction k with
  | zero => exact ⟨(by intro _ _ _ _ _ _ _ _ H; rw [stats_Wait.l0] at H; cases H), (by intro _ _ _ _ _ _ _ _ _ _ _ H; rw [stats_Wait.l1] at H; cases H)⟩
  | succ k ih => exact (hs k ih).1
theorem stats_Wait.ok {k : Nat} {p0_0 : Int} {p0_1 : Int} {p0_2 : List (S56)} {p1 : List (S68)} {p2 : Int} {p3 : Int} {r0 : Int} {r1 : Bool} (H : stats_Wait.f k p0_0 p0_1 p0_2 p1 p2 p3 = some (r0, r1)) : CallOK Try.prog glo 15 [.agg [.imm (.int .i64 p0_0), .imm (.int .i64 p0_1), vS56 p0_2], vS68 p1, .imm (.int .i64 p2), .imm (.int .i64 p3)] (.tup [.imm (.int .i64 r0), .imm (.bool r1)]) :=
  CallOK.of (c := stats_Wait.cx) (p := bodyOf Try.f15) Try.func15 rfl rfl rfl (Nat.le_of_ble_eq_true rfl) rfl ((stats_Wait.seg r0 r1).2 k ((stats_Wait.seg r0 r1).1 k) p0_0 p0_1 p0_2 p1 p2 p3 H)
end Go.Proofs.Ytopbcamlagdieaa.PStats
set_option linter.unusedVariables false
set_option linter.unusedSimpArgs false
namespace Go.Proofs.Ytopbcamlagdieaa.PStats
open Go.RowKit Go.Proofs.YtopbcamlagdieaaW.PrintWords Go.Proofs.YtopbcamlagdieaaW.PrintLast Go.Proofs.YtopbcamlagdieaaW.PrintMore Go.Proofs.Ytopbcamlagdieaa.Abs
/-! ### boarderlaw13_Plain: function 17 -/
def boarderlaw13_Plain.f  : Option (Int × Int × (List (S56))) := some (167772161, 300, (([(⟨(([(⟨167772160, 24, (([(⟨167772170, 167772180⟩ : S76)] : List (S76))), (([(⟨(⟨#[105, 48, 49]⟩ : ByteArray), 167772165⟩ : S65)] : List (S65))), 1, 167772161, 600⟩ : S60)] : List (S60)))⟩ : S56)] : List (S56))))
noncomputable def boarderlaw13_Plain.cx : Cx := ⟨Try.prog, tys, glo, 12, Try.f17, [.cell 0 34], 0⟩
set_option maxHeartbeats 16000000 in
set_option maxRecDepth 100000 in
theorem boarderlaw13_Plain.ok {r0 : Int} {r1 : Int} {r2 : (List (S56))} (H : boarderlaw13_Plain.f = some (r0, r1, r2)) : CallOK Try.prog glo 17 [] (.agg [.imm (.int .i64 r0), .imm (.int .i64 r1), vS56 r2]) := by
  unfold boarderlaw13_Plain.f at H
  refine CallOK.of (c := boarderlaw13_Plain.cx) Try.func17 (show (boarderlaw13_Plain.cx).fn.body = some _ from rfl) rfl rfl (Nat.le_of_ble_eq_true rfl) rfl ?_
  repeat' (first
    | ((with_reducible replace H := some_ite H); obtain ⟨_, H⟩ := H)
    | ((with_reducible apply ROps.pure); (case hop => rfl); (case hw => rfl); (case hdst => rfl); (case hd => rfl))
    | (with_reducible apply ROps.nil)
    | (with_reducible apply Runs.seq)
    | (with_reducible apply Runs.region tysOK)
    | (with_reducible apply Runs.scope)
    | (with_reducible apply Runs.inScope)
    | (with_reducible apply Runs.label)
    | ((with_reducible apply ROps.store); (case hop => rfl); (case hp => rfl); (case hR => rfl); (case hc => rfl); (case hl => first | (dsimp only [setR_one, setR, Nat.beq, cond]; done) | (dsimp only [setR_one, setR, Nat.beq, cond]; rfl) | rfl); (case hl' => first | (dsimp only [List.take, List.drop, List.append, List.nil_append, List.cons_append, List.map, List.length, Nat.add]; rfl) | rfl); (case hw => rfl); (all_goals try rfl))
    | ((with_reducible apply ROps.alloc); (case hop => rfl); (case hw => rfl); (all_goals try rfl))
    | ((with_reducible apply ROps.lit); (case hop => rfl); (case hti => rfl); (case hsz => rfl); (case hl => rfl); (case hrf => rfl); (case hw => rfl); (all_goals try rfl))
    | ((with_reducible apply Runs.retP tysOK); (case hrs => rfl); (case h => rfl); (case hr => (cases H; exact refX)); (case hx => rfl))
    | exact leRX)
end Go.Proofs.Ytopbcamlagdieaa.PStats
set_option linter.unusedVariables false
set_option linter.unusedSimpArgs false
namespace Go.Proofs.Ytopbcamlagdieaa.PStats
open Go.RowKit Go.Proofs.YtopbcamlagdieaaW.PrintWords Go.Proofs.YtopbcamlagdieaaW.PrintLast Go.Proofs.YtopbcamlagdieaaW.PrintMore Go.Proofs.Ytopbcamlagdieaa.Abs
/-! ### stats_add_m1: function 18m1 -/
def stats_add_m1.l0 : Nat → List (Int) → Int → Int → Option (Int)
  | 0, _, _, _ => none
  | k + 1, p1, v2, v3 => (if v3 < (p1.length : Int) then (if 0 ≤ v3 then (stats_add_m1.l0 k p1 (wrap64 (v2 + (rdOf 0 p1 v3))) (wrap64 (v3 + 1))) else none) else (some v2))
def stats_add_m1.f (k : Nat) (p1 : List (Int)) (g0_0 : Int) (g0_1 : Int) (g0_2 : Int) (g0_3 : Int) (g0_4 : Int) (g0_5 : Int) (g0_6 : Int) : Option (Int) := (stats_add_m1.l0 k p1 g0_3 0)
noncomputable def stats_add_m1.cx : Cx := ⟨Try.prog, tys, glo, 19, Try.f18, [], 1⟩
def stats_add_m1.Sl0 (o1 : Int) (g0_0 : Int) (g0_1 : Int) (g0_2 : Int) (g0_4 : Int) (g0_5 : Int) (g0_6 : Int) (k : Nat) : Prop := ∀ (p1 : List (Int)) (v2 : Int) (v3 : Int), stats_add_m1.l0 k p1 v2 v3 = some o1 → Runs stats_add_m1.cx (MutF (.tup []) [.mat 1 7 (fun _ => [.imm (.int .i64 g0_0), .imm (.int .i64 g0_1), .imm (.int .i64 g0_2), .imm (.int .i64 o1), .imm (.int .i64 g0_4), .imm (.int .i64 g0_5), .imm (.int .i64 g0_6)])]) [.code (cP (bodyOf Try.f18) [1, 0, 0]), .inLoop (cP (bodyOf Try.f18) [1, 0, 0]), .inBlock 0] (overF none_ [(0, .loc 0 0 3), (6, vI .i64 p1), (7, .imm (.int .i64 (p1.length : Int))), (8, .imm (.int .i64 v3))]) [.mat 1 7 (fun _ => [.imm (.int .i64 g0_0), .imm (.int .i64 g0_1), .imm (.int .i64 g0_2), .imm (.int .i64 v2), .imm (.int .i64 g0_4), .imm (.int .i64 g0_5), .imm (.int .i64 g0_6)])]
def stats_add_m1.Sf (o1 : Int) (g0_0 : Int) (g0_1 : Int) (g0_2 : Int) (g0_4 : Int) (g0_5 : Int) (g0_6 : Int) (k : Nat) : Prop := ∀ (p1 : List (Int)) (g0_3 : Int), stats_add_m1.f k p1 g0_0 g0_1 g0_2 g0_3 g0_4 g0_5 g0_6 = some o1 → Runs stats_add_m1.cx (MutF (.tup []) [.mat 1 7 (fun _ => [.imm (.int .i64 g0_0), .imm (.int .i64 g0_1), .imm (.int .i64 g0_2), .imm (.int .i64 o1), .imm (.int .i64 g0_4), .imm (.int .i64 g0_5), .imm (.int .i64 g0_6)])]) [.code (bodyOf Try.f18)] (frame0 [.loc 0 0 3, vI .i64 p1]) [.mat 1 7 (fun _ => [.imm (.int .i64 g0_0), .imm (.int .i64 g0_1), .imm (.int .i64 g0_2), .imm (.int .i64 g0_3), .imm (.int .i64 g0_4), .imm (.int .i64 g0_5), .imm (.int .i64 g0_6)])]
set_option maxHeartbeats 64000000 in
set_option maxRecDepth 100000 in
theorem stats_add_m1.seg (o1 : Int) (g0_0 : Int) (g0_1 : Int) (g0_2 : Int) (g0_4 : Int) (g0_5 : Int) (g0_6 : Int) : (∀ k, stats_add_m1.Sl0 o1 g0_0 g0_1 g0_2 g0_4 g0_5 g0_6 k) ∧ ∀ k, (stats_add_m1.Sl0 o1 g0_0 g0_1 g0_2 g0_4 g0_5 g0_6 k) → stats_add_m1.Sf o1 g0_0 g0_1 g0_2 g0_4 g0_5 g0_6 k := by
  have hs : ∀ k, (stats_add_m1.Sl0 o1 g0_0 g0_1 g0_2 g0_4 g0_5 g0_6 k) → (stats_add_m1.Sl0 o1 g0_0 g0_1 g0_2 g0_4 g0_5 g0_6 (k + 1)) ∧ stats_add_m1.Sf o1 g0_0 g0_1 g0_2 g0_4 g0_5 g0_6 k := by
    intro k h
    have h_l0 := h
    refine ⟨?_, ?_⟩
    (intro p1 v2 v3 H; rw [stats_add_m1.l0] at H; try dsimp only at H)
    rotate_left
    (intro p1 g0_3 H; unfold stats_add_m1.f at H; try dsimp only at H)
    rotate_left
    repeat' (first
      | ((with_reducible have hJ : stats_add_m1.l0 _ _ _ _ = some _ := H); clear hJ; (with_reducible apply Runs.loop); (apply Runs.le [some 0] (h_l0 _ _ _ H)))
      | ((with_reducible have hJ : stats_add_m1.l0 _ _ _ _ = some _ := H); clear hJ; (with_reducible apply Runs.inLoop); (apply Runs.le [some 0] (h_l0 _ _ _ H)))
      | ((with_reducible replace H := some_ite H); obtain ⟨_, H⟩ := H)
      | ((with_reducible apply ROps.pure); (case hop => rfl); (case hw => rfl); (case hdst => rfl); (case hd => rfl))
      | (with_reducible apply ROps.nil)
      | (with_reducible apply Runs.seq)
      | (with_reducible apply Runs.region tysOK)
      | (with_reducible apply Runs.block)
      | (with_reducible apply Runs.skip)
      | (with_reducible apply Runs.inBlock)
      | (with_reducible apply Runs.scope)
      | (with_reducible apply Runs.inScope)
      | (with_reducible apply Runs.label)
      | ((with_reducible apply Runs.condT); (case ho => rfl))
      | ((with_reducible apply Runs.condF); (case ho => rfl))
      | ((with_reducible apply Runs.exit); (case he => rfl))
      | ((with_reducible apply ROps.store); (case hop => rfl); (case hp => rfl); (case hR => rfl); (case hc => rfl); (case hl => first | (dsimp only [setR_one, setR, Nat.beq, cond]; done) | (dsimp only [setR_one, setR, Nat.beq, cond]; rfl) | rfl); (case hl' => first | (dsimp only [List.take, List.drop, List.append, List.nil_append, List.cons_append, List.map, List.length, Nat.add]; rfl) | rfl); (case hw => rfl); (all_goals try rfl))
      | ((with_reducible apply ROps.cmp); (case hop => exact cmpX); (case hw => rfl); (case hdst => rfl); (case hd => rfl); (all_goals (intro h; first | (replace H := ite_pos_ h H) | (replace H := ite_neg_ h H) | (replace H := ite_pos_ (Decidable.not_not.1 h) H) | ((try simp only [rdOf] at h); (try simp only [rdOf] at H); (rw [if_pos h] at H)) | ((try simp only [rdOf] at h); (try simp only [rdOf] at H); (rw [if_neg h] at H)) | contradiction | skip)))
      | ((with_reducible apply ROps.val); (case hop => exact valX); (case hw => rfl); (case hdst => rfl); (case hd => rfl))
      | ((with_reducible apply ROps.idx); (case hop => rfl); (case hx => rfl); (case hi => rfl); (case he => rfl); (case hw => rfl); (case hdst => rfl); (case hd => rfl); (case h0 => first | assumption | omega); (case h1 => first | assumption | omega))
      | ((with_reducible have hS : some _ = some _ := H); clear hS; cases H; (first | with_reducible apply Runs.retM [some 0] tysOK | with_reducible apply Runs.fallM [some 0] tysOK); (case hrs => rfl); (case h => rfl); (case hx => exact refXX); (case hR => exact leRX))
      | exact leRX
      | (refine Runs.code_eq (p' := .seq _ _) rfl ?_)
      | (refine Runs.code_eq (p' := .region _ _ _) rfl ?_)
      | (refine Runs.code_eq (p' := .cond _ _ _) rfl ?_)
      | (refine Runs.code_eq (p' := .block _ _) rfl ?_)
      | (refine Runs.code_eq (p' := .loop _) rfl ?_)
      | (refine Runs.code_eq (p' := .exit _) rfl ?_)
      | (refine Runs.code_eq (p' := .ret) rfl ?_)
      | (refine Runs.code_eq (p' := .skip) rfl ?_)
      | (refine Runs.code_eq (p' := .label _) rfl ?_)
      | (refine Runs.code_eq (p' := .scope _) rfl ?_))
  refine ⟨fun k => ?_, fun k h => (hs k h).2⟩
  induction k with
  | zero => intro _ _ _ H; rw [stats_add_m1.l0] at H; cases H
  | succ k ih => exact (hs k ih).1
theorem stats_add_m1.okM {k : Nat} {p1 : List (Int)} {g0_0 : Int} {g0_1 : Int} {g0_2 : Int} {g0_3 : Int} {g0_4 : Int} {g0_5 : Int} {g0_6 : Int} {o1 : Int} (H : stats_add_m1.f k p1 g0_0 g0_1 g0_2 g0_3 g0_4 g0_5 g0_6 = some o1) : CallM Try.prog glo 18 [.loc 0 0 3, vI .i64 p1] [.mat 1 7 (fun _ => [.imm (.int .i64 g0_0), .imm (.int .i64 g0_1), .imm (.int .i64 g0_2), .imm (.int .i64 g0_3), .imm (.int .i64 g0_4), .imm (.int .i64 g0_5), .imm (.int .i64 g0_6)])] (.tup []) [.mat 1 7 (fun _ => [.imm (.int .i64 g0_0), .imm (.int .i64 g0_1), .imm (.int .i64 g0_2), .imm (.int .i64 o1), .imm (.int .i64 g0_4), .imm (.int .i64 g0_5), .imm (.int .i64 g0_6)])] :=
  CallM.of (c := stats_add_m1.cx) (p := bodyOf Try.f18) Try.func18 rfl rfl rfl (Nat.le_of_ble_eq_true rfl) rfl sameX bdX ((stats_add_m1.seg o1 g0_0 g0_1 g0_2 g0_4 g0_5 g0_6).2 k ((stats_add_m1.seg o1 g0_0 g0_1 g0_2 g0_4 g0_5 g0_6).1 k) p1 g0_3 H)
end Go.Proofs.Ytopbcamlagdieaa.PStats
set_option linter.unusedVariables false
set_option linter.unusedSimpArgs false
namespace Go.Proofs.Ytopbcamlagdieaa.PStats
open Go.RowKit Go.Proofs.YtopbcamlagdieaaW.PrintWords Go.Proofs.YtopbcamlagdieaaW.PrintLast Go.Proofs.YtopbcamlagdieaaW.PrintMore Go.Proofs.Ytopbcamlagdieaa.Abs
/-! ### stats_add_m2: function 18m2 -/
def stats_add_m2.l0 : Nat → List (Int) → Int → Int → Option (Int)
  | 0, _, _, _ => none
  | k + 1, p1, v2, v3 => (if v3 < (p1.length : Int) then (if 0 ≤ v3 then (stats_add_m2.l0 k p1 (wrap64 (v2 + (rdOf 0 p1 v3))) (wrap64 (v3 + 1))) else none) else (some v2))
def stats_add_m2.f (k : Nat) (p1 : List (Int)) (g0_0 : Int) (g0_1 : Int) (g0_2 : Int) (g0_3 : Int) (g0_4 : Int) (g0_5 : Int) (g0_6 : Int) : Option (Int) := (stats_add_m2.l0 k p1 g0_4 0)
noncomputable def stats_add_m2.cx : Cx := ⟨Try.prog, tys, glo, 19, Try.f18, [], 1⟩
def stats_add_m2.Sl0 (o1 : Int) (g0_0 : Int) (g0_1 : Int) (g0_2 : Int) (g0_3 : Int) (g0_5 : Int) (g0_6 : Int) (k : Nat) : Prop := ∀ (p1 : List (Int)) (v2 : Int) (v3 : Int), stats_add_m2.l0 k p1 v2 v3 = some o1 → Runs stats_add_m2.cx (MutF (.tup []) [.mat 1 7 (fun _ => [.imm (.int .i64 g0_0), .imm (.int .i64 g0_1), .imm (.int .i64 g0_2), .imm (.int .i64 g0_3), .imm (.int .i64 o1), .imm (.int .i64 g0_5), .imm (.int .i64 g0_6)])]) [.code (cP (bodyOf Try.f18) [1, 0, 0]), .inLoop (cP (bodyOf Try.f18) [1, 0, 0]), .inBlock 0] (overF none_ [(0, .loc 0 0 4), (6, vI .i64 p1), (7, .imm (.int .i64 (p1.length : Int))), (8, .imm (.int .i64 v3))]) [.mat 1 7 (fun _ => [.imm (.int .i64 g0_0), .imm (.int .i64 g0_1), .imm (.int .i64 g0_2), .imm (.int .i64 g0_3), .imm (.int .i64 v2), .imm (.int .i64 g0_5), .imm (.int .i64 g0_6)])]
def stats_add_m2.Sf (o1 : Int) (g0_0 : Int) (g0_1 : Int) (g0_2 : Int) (g0_3 : Int) (g0_5 : Int) (g0_6 : Int) (k : Nat) : Prop := ∀ (p1 : List (Int)) (g0_4 : Int), stats_add_m2.f k p1 g0_0 g0_1 g0_2 g0_3 g0_4 g0_5 g0_6 = some o1 → Runs stats_add_m2.cx (MutF (.tup []) [.mat 1 7 (fun _ => [.imm (.int .i64 g0_0), .imm (.int .i64 g0_1), .imm (.int .i64 g0_2), .imm (.int .i64 g0_3), .imm (.int .i64 o1), .imm (.int .i64 g0_5), .imm (.int .i64 g0_6)])]) [.code (bodyOf Try.f18)] (frame0 [.loc 0 0 4, vI .i64 p1]) [.mat 1 7 (fun _ => [.imm (.int .i64 g0_0), .imm (.int .i64 g0_1), .imm (.int .i64 g0_2), .imm (.int .i64 g0_3), .imm (.int .i64 g0_4), .imm (.int .i64 g0_5), .imm (.int .i64 g0_6)])]
set_option maxHeartbeats 64000000 in
set_option maxRecDepth 100000 in
theorem stats_add_m2.seg (o1 : Int) (g0_0 : Int) (g0_1 : Int) (g0_2 : Int) (g0_3 : Int) (g0_5 : Int) (g0_6 : Int) : (∀ k, stats_add_m2.Sl0 o1 g0_0 g0_1 g0_2 g0_3 g0_5 g0_6 k) ∧ ∀ k, (stats_add_m2.Sl0 o1 g0_0 g0_1 g0_2 g0_3 g0_5 g0_6 k) → stats_add_m2.Sf o1 g0_0 g0_1 g0_2 g0_3 g0_5 g0_6 k := by
  have hs : ∀ k, (stats_add_m2.Sl0 o1 g0_0 g0_1 g0_2 g0_3 g0_5 g0_6 k) → (stats_add_m2.Sl0 o1 g0_0 g0_1 g0_2 g0_3 g0_5 g0_6 (k + 1)) ∧ stats_add_m2.Sf o1 g0_0 g0_1 g0_2 g0_3 g0_5 g0_6 k := by
    intro k h
    have h_l0 := h
    refine ⟨?_, ?_⟩
    (intro p1 v2 v3 H; rw [stats_add_m2.l0] at H; try dsimp only at H)
    rotate_left
    (intro p1 g0_4 H; unfold stats_add_m2.f at H; try dsimp only at H)
    rotate_left
    repeat' (first
      | ((with_reducible have hJ : stats_add_m2.l0 _ _ _ _ = some _ := H); clear hJ; (with_reducible apply Runs.loop); (apply Runs.le [some 0] (h_l0 _ _ _ H)))
      | ((with_reducible have hJ : stats_add_m2.l0 _ _ _ _ = some _ := H); clear hJ; (with_reducible apply Runs.inLoop); (apply Runs.le [some 0] (h_l0 _ _ _ H)))
      | ((with_reducible replace H := some_ite H); obtain ⟨_, H⟩ := H)
      | ((with_reducible apply ROps.pure); (case hop => rfl); (case hw => rfl); (case hdst => rfl); (case hd => rfl))
      | (with_reducible apply ROps.nil)
      | (with_reducible apply Runs.seq)
      | (with_reducible apply Runs.region tysOK)
      | (with_reducible apply Runs.block)
      | (with_reducible apply Runs.skip)
      | (with_reducible apply Runs.inBlock)
      | (with_reducible apply Runs.scope)
      | (with_reducible apply Runs.inScope)
      | (with_reducible apply Runs.label)
      | ((with_reducible apply Runs.condT); (case ho => rfl))
      | ((with_reducible apply Runs.condF); (case ho => rfl))
      | ((with_reducible apply Runs.exit); (case he => rfl))
      | ((with_reducible apply ROps.store); (case hop => rfl); (case hp => rfl); (case hR => rfl); (case hc => rfl); (case hl => first | (dsimp only [setR_one, setR, Nat.beq, cond]; done) | (dsimp only [setR_one, setR, Nat.beq, cond]; rfl) | rfl); (case hl' => first | (dsimp only [List.take, List.drop, List.append, List.nil_append, List.cons_append, List.map, List.length, Nat.add]; rfl) | rfl); (case hw => rfl); (all_goals try rfl))
      | ((with_reducible apply ROps.cmp); (case hop => exact cmpX); (case hw => rfl); (case hdst => rfl); (case hd => rfl); (all_goals (intro h; first | (replace H := ite_pos_ h H) | (replace H := ite_neg_ h H) | (replace H := ite_pos_ (Decidable.not_not.1 h) H) | ((try simp only [rdOf] at h); (try simp only [rdOf] at H); (rw [if_pos h] at H)) | ((try simp only [rdOf] at h); (try simp only [rdOf] at H); (rw [if_neg h] at H)) | contradiction | skip)))
      | ((with_reducible apply ROps.val); (case hop => exact valX); (case hw => rfl); (case hdst => rfl); (case hd => rfl))
      | ((with_reducible apply ROps.idx); (case hop => rfl); (case hx => rfl); (case hi => rfl); (case he => rfl); (case hw => rfl); (case hdst => rfl); (case hd => rfl); (case h0 => first | assumption | omega); (case h1 => first | assumption | omega))
      | ((with_reducible have hS : some _ = some _ := H); clear hS; cases H; (first | with_reducible apply Runs.retM [some 0] tysOK | with_reducible apply Runs.fallM [some 0] tysOK); (case hrs => rfl); (case h => rfl); (case hx => exact refXX); (case hR => exact leRX))
      | exact leRX
      | (refine Runs.code_eq (p' := .seq _ _) rfl ?_)
      | (refine Runs.code_eq (p' := .region _ _ _) rfl ?_)
      | (refine Runs.code_eq (p' := .cond _ _ _) rfl ?_)
      | (refine Runs.code_eq (p' := .block _ _) rfl ?_)
      | (refine Runs.code_eq (p' := .loop _) rfl ?_)
      | (refine Runs.code_eq (p' := .exit _) rfl ?_)
      | (refine Runs.code_eq (p' := .ret) rfl ?_)
      | (refine Runs.code_eq (p' := .skip) rfl ?_)
      | (refine Runs.code_eq (p' := .label _) rfl ?_)
      | (refine Runs.code_eq (p' := .scope _) rfl ?_))
  refine ⟨fun k => ?_, fun k h => (hs k h).2⟩
  induction k with
  | zero => intro _ _ _ H; rw [stats_add_m2.l0] at H; cases H
  | succ k ih => exact (hs k ih).1
theorem stats_add_m2.okM {k : Nat} {p1 : List (Int)} {g0_0 : Int} {g0_1 : Int} {g0_2 : Int} {g0_3 : Int} {g0_4 : Int} {g0_5 : Int} {g0_6 : Int} {o1 : Int} (H : stats_add_m2.f k p1 g0_0 g0_1 g0_2 g0_3 g0_4 g0_5 g0_6 = some o1) : CallM Try.prog glo 18 [.loc 0 0 4, vI .i64 p1] [.mat 1 7 (fun _ => [.imm (.int .i64 g0_0), .imm (.int .i64 g0_1), .imm (.int .i64 g0_2), .imm (.int .i64 g0_3), .imm (.int .i64 g0_4), .imm (.int .i64 g0_5), .imm (.int .i64 g0_6)])] (.tup []) [.mat 1 7 (fun _ => [.imm (.int .i64 g0_0), .imm (.int .i64 g0_1), .imm (.int .i64 g0_2), .imm (.int .i64 g0_3), .imm (.int .i64 o1), .imm (.int .i64 g0_5), .imm (.int .i64 g0_6)])] :=
  CallM.of (c := stats_add_m2.cx) (p := bodyOf Try.f18) Try.func18 rfl rfl rfl (Nat.le_of_ble_eq_true rfl) rfl sameX bdX ((stats_add_m2.seg o1 g0_0 g0_1 g0_2 g0_3 g0_5 g0_6).2 k ((stats_add_m2.seg o1 g0_0 g0_1 g0_2 g0_3 g0_5 g0_6).1 k) p1 g0_4 H)
end Go.Proofs.Ytopbcamlagdieaa.PStats
set_option linter.unusedVariables false
set_option linter.unusedSimpArgs false
namespace Go.Proofs.Ytopbcamlagdieaa.PStats
open Go.RowKit Go.Proofs.YtopbcamlagdieaaW.PrintWords Go.Proofs.YtopbcamlagdieaaW.PrintLast Go.Proofs.YtopbcamlagdieaaW.PrintMore Go.Proofs.Ytopbcamlagdieaa.Abs
/-! ### stats_add_m3: function 18m3 -/
def stats_add_m3.l0 : Nat → List (Int) → Int → Int → Option (Int)
  | 0, _, _, _ => none
  | k + 1, p1, v2, v3 => (if v3 < (p1.length : Int) then (if 0 ≤ v3 then (stats_add_m3.l0 k p1 (wrap64 (v2 + (rdOf 0 p1 v3))) (wrap64 (v3 + 1))) else none) else (some v2))
def stats_add_m3.f (k : Nat) (p1 : List (Int)) (g0_0 : Int) (g0_1 : Int) (g0_2 : Int) (g0_3 : Int) (g0_4 : Int) (g0_5 : Int) (g0_6 : Int) : Option (Int) := (stats_add_m3.l0 k p1 g0_5 0)
noncomputable def stats_add_m3.cx : Cx := ⟨Try.prog, tys, glo, 19, Try.f18, [], 1⟩
def stats_add_m3.Sl0 (o1 : Int) (g0_0 : Int) (g0_1 : Int) (g0_2 : Int) (g0_3 : Int) (g0_4 : Int) (g0_6 : Int) (k : Nat) : Prop := ∀ (p1 : List (Int)) (v2 : Int) (v3 : Int), stats_add_m3.l0 k p1 v2 v3 = some o1 → Runs stats_add_m3.cx (MutF (.tup []) [.mat 1 7 (fun _ => [.imm (.int .i64 g0_0), .imm (.int .i64 g0_1), .imm (.int .i64 g0_2), .imm (.int .i64 g0_3), .imm (.int .i64 g0_4), .imm (.int .i64 o1), .imm (.int .i64 g0_6)])]) [.code (cP (bodyOf Try.f18) [1, 0, 0]), .inLoop (cP (bodyOf Try.f18) [1, 0, 0]), .inBlock 0] (overF none_ [(0, .loc 0 0 5), (6, vI .i64 p1), (7, .imm (.int .i64 (p1.length : Int))), (8, .imm (.int .i64 v3))]) [.mat 1 7 (fun _ => [.imm (.int .i64 g0_0), .imm (.int .i64 g0_1), .imm (.int .i64 g0_2), .imm (.int .i64 g0_3), .imm (.int .i64 g0_4), .imm (.int .i64 v2), .imm (.int .i64 g0_6)])]
def stats_add_m3.Sf (o1 : Int) (g0_0 : Int) (g0_1 : Int) (g0_2 : Int) (g0_3 : Int) (g0_4 : Int) (g0_6 : Int) (k : Nat) : Prop := ∀ (p1 : List (Int)) (g0_5 : Int), stats_add_m3.f k p1 g0_0 g0_1 g0_2 g0_3 g0_4 g0_5 g0_6 = some o1 → Runs stats_add_m3.cx (MutF (.tup []) [.mat 1 7 (fun _ => [.imm (.int .i64 g0_0), .imm (.int .i64 g0_1), .imm (.int .i64 g0_2), .imm (.int .i64 g0_3), .imm (.int .i64 g0_4), .imm (.int .i64 o1), .imm (.int .i64 g0_6)])]) [.code (bodyOf Try.f18)] (frame0 [.loc 0 0 5, vI .i64 p1]) [.mat 1 7 (fun _ => [.imm (.int .i64 g0_0), .imm (.int .i64 g0_1), .imm (.int .i64 g0_2), .imm (.int .i64 g0_3), .imm (.int .i64 g0_4), .imm (.int .i64 g0_5), .imm (.int .i64 g0_6)])]
set_option maxHeartbeats 64000000 in
set_option maxRecDepth 100000 in
theorem stats_add_m3.seg (o1 : Int) (g0_0 : Int) (g0_1 : Int) (g0_2 : Int) (g0_3 : Int) (g0_4 : Int) (g0_6 : Int) : (∀ k, stats_add_m3.Sl0 o1 g0_0 g0_1 g0_2 g0_3 g0_4 g0_6 k) ∧ ∀ k, (stats_add_m3.Sl0 o1 g0_0 g0_1 g0_2 g0_3 g0_4 g0_6 k) → stats_add_m3.Sf o1 g0_0 g0_1 g0_2 g0_3 g0_4 g0_6 k := by
  have hs : ∀ k, (stats_add_m3.Sl0 o1 g0_0 g0_1 g0_2 g0_3 g0_4 g0_6 k) → (stats_add_m3.Sl0 o1 g0_0 g0_1 g0_2 g0_3 g0_4 g0_6 (k + 1)) ∧ stats_add_m3.Sf o1 g0_0 g0_1 g0_2 g0_3 g0_4 g0_6 k := by
    intro k h
    have h_l0 := h
    refine ⟨?_, ?_⟩
    (intro p1 v2 v3 H; rw [stats_add_m3.l0] at H; try dsimp only at H)
    rotate_left
    (intro p1 g0_5 H; unfold stats_add_m3.f at H; try dsimp only at H)
    rotate_left
    repeat' (first
      | ((with_reducible have hJ : stats_add_m3.l0 _ _ _ _ = some _ := H); clear hJ; (with_reducible apply Runs.loop); (apply Runs.le [some 0] (h_l0 _ _ _ H)))
      | ((with_reducible have hJ : stats_add_m3.l0 _ _ _ _ = some _ := H); clear hJ; (with_reducible apply Runs.inLoop); (apply Runs.le [some 0] (h_l0 _ _ _ H)))
      | ((with_reducible replace H := some_ite H); obtain ⟨_, H⟩ := H)
      | ((with_reducible apply ROps.pure); (case hop => rfl); (case hw => rfl); (case hdst => rfl); (case hd => rfl))
      | (with_reducible apply ROps.nil)
      | (with_reducible apply Runs.seq)
      | (with_reducible apply Runs.region tysOK)
      | (with_reducible apply Runs.block)
      | (with_reducible apply Runs.skip)
      | (with_reducible apply Runs.inBlock)
      | (with_reducible apply Runs.scope)
      | (with_reducible apply Runs.inScope)
      | (with_reducible apply Runs.label)
      | ((with_reducible apply Runs.condT); (case ho => rfl))
      | ((with_reducible apply Runs.condF); (case ho => rfl))
      | ((with_reducible apply Runs.exit); (case he => rfl))
      | ((with_reducible apply ROps.store); (case hop => rfl); (case hp => rfl); (case hR => rfl); (case hc => rfl); (case hl => first | (dsimp only [setR_one, setR, Nat.beq, cond]; done) | (dsimp only [setR_one, setR, Nat.beq, cond]; rfl) | rfl); (case hl' => first | (dsimp only [List.take, List.drop, List.append, List.nil_append, List.cons_append, List.map, List.length, Nat.add]; rfl) | rfl); (case hw => rfl); (all_goals try rfl))
      | ((with_reducible apply ROps.cmp); (case hop => exact cmpX); (case hw => rfl); (case hdst => rfl); (case hd => rfl); (all_goals (intro h; first | (replace H := ite_pos_ h H) | (replace H := ite_neg_ h H) | (replace H := ite_pos_ (Decidable.not_not.1 h) H) | ((try simp only [rdOf] at h); (try simp only [rdOf] at H); (rw [if_pos h] at H)) | ((try simp only [rdOf] at h); (try simp only [rdOf] at H); (rw [if_neg h] at H)) | contradiction | skip)))
      | ((with_reducible apply ROps.val); (case hop => exact valX); (case hw => rfl); (case hdst => rfl); (case hd => rfl))
      | ((with_reducible apply ROps.idx); (case hop => rfl); (case hx => rfl); (case hi => rfl); (case he => rfl); (case hw => rfl); (case hdst => rfl); (case hd => rfl); (case h0 => first | assumption | omega); (case h1 => first | assumption | omega))
      | ((with_reducible have hS : some _ = some _ := H); clear hS; cases H; (first | with_reducible apply Runs.retM [some 0] tysOK | with_reducible apply Runs.fallM [some 0] tysOK); (case hrs => rfl); (case h => rfl); (case hx => exact refXX); (case hR => exact leRX))
      | exact leRX
      | (refine Runs.code_eq (p' := .seq _ _) rfl ?_)
      | (refine Runs.code_eq (p' := .region _ _ _) rfl ?_)
      | (refine Runs.code_eq (p' := .cond _ _ _) rfl ?_)
      | (refine Runs.code_eq (p' := .block _ _) rfl ?_)
      | (refine Runs.code_eq (p' := .loop _) rfl ?_)
      | (refine Runs.code_eq (p' := .exit _) rfl ?_)
      | (refine Runs.code_eq (p' := .ret) rfl ?_)
      | (refine Runs.code_eq (p' := .skip) rfl ?_)
      | (refine Runs.code_eq (p' := .label _) rfl ?_)
      | (refine Runs.code_eq (p' := .scope _) rfl ?_))
  refine ⟨fun k => ?_, fun k h => (hs k h).2⟩
  induction k with
  | zero => intro _ _ _ H; rw [stats_add_m3.l0] at H; cases H
  | succ k ih => exact (hs k ih).1
theorem stats_add_m3.okM {k : Nat} {p1 : List (Int)} {g0_0 : Int} {g0_1 : Int} {g0_2 : Int} {g0_3 : Int} {g0_4 : Int} {g0_5 : Int} {g0_6 : Int} {o1 : Int} (H : stats_add_m3.f k p1 g0_0 g0_1 g0_2 g0_3 g0_4 g0_5 g0_6 = some o1) : CallM Try.prog glo 18 [.loc 0 0 5, vI .i64 p1] [.mat 1 7 (fun _ => [.imm (.int .i64 g0_0), .imm (.int .i64 g0_1), .imm (.int .i64 g0_2), .imm (.int .i64 g0_3), .imm (.int .i64 g0_4), .imm (.int .i64 g0_5), .imm (.int .i64 g0_6)])] (.tup []) [.mat 1 7 (fun _ => [.imm (.int .i64 g0_0), .imm (.int .i64 g0_1), .imm (.int .i64 g0_2), .imm (.int .i64 g0_3), .imm (.int .i64 g0_4), .imm (.int .i64 o1), .imm (.int .i64 g0_6)])] :=
  CallM.of (c := stats_add_m3.cx) (p := bodyOf Try.f18) Try.func18 rfl rfl rfl (Nat.le_of_ble_eq_true rfl) rfl sameX bdX ((stats_add_m3.seg o1 g0_0 g0_1 g0_2 g0_3 g0_4 g0_6).2 k ((stats_add_m3.seg o1 g0_0 g0_1 g0_2 g0_3 g0_4 g0_6).1 k) p1 g0_5 H)
end Go.Proofs.Ytopbcamlagdieaa.PStats
set_option linter.unusedVariables false
set_option linter.unusedSimpArgs false
namespace Go.Proofs.Ytopbcamlagdieaa.PStats
open Go.RowKit Go.Proofs.YtopbcamlagdieaaW.PrintWords Go.Proofs.YtopbcamlagdieaaW.PrintLast Go.Proofs.YtopbcamlagdieaaW.PrintMore Go.Proofs.Ytopbcamlagdieaa.Abs
/-! ### stats_add_m4: function 18m4 -/
def stats_add_m4.l0 : Nat → List (Int) → Int → Int → Option (Int)
  | 0, _, _, _ => none
  | k + 1, p1, v2, v3 => (if v3 < (p1.length : Int) then (if 0 ≤ v3 then (stats_add_m4.l0 k p1 (wrap64 (v2 + (rdOf 0 p1 v3))) (wrap64 (v3 + 1))) else none) else (some v2))
def stats_add_m4.f (k : Nat) (p1 : List (Int)) (g0_0 : Int) (g0_1 : Int) (g0_2 : Int) (g0_3 : Int) (g0_4 : Int) (g0_5 : Int) (g0_6 : Int) : Option (Int) := (stats_add_m4.l0 k p1 g0_6 0)
noncomputable def stats_add_m4.cx : Cx := ⟨Try.prog, tys, glo, 19, Try.f18, [], 1⟩
def stats_add_m4.Sl0 (o1 : Int) (g0_0 : Int) (g0_1 : Int) (g0_2 : Int) (g0_3 : Int) (g0_4 : Int) (g0_5 : Int) (k : Nat) : Prop := ∀ (p1 : List (Int)) (v2 : Int) (v3 : Int), stats_add_m4.l0 k p1 v2 v3 = some o1 → Runs stats_add_m4.cx (MutF (.tup []) [.mat 1 7 (fun _ => [.imm (.int .i64 g0_0), .imm (.int .i64 g0_1), .imm (.int .i64 g0_2), .imm (.int .i64 g0_3), .imm (.int .i64 g0_4), .imm (.int .i64 g0_5), .imm (.int .i64 o1)])]) [.code (cP (bodyOf Try.f18) [1, 0, 0]), .inLoop (cP (bodyOf Try.f18) [1, 0, 0]), .inBlock 0] (overF none_ [(0, .loc 0 0 6), (6, vI .i64 p1), (7, .imm (.int .i64 (p1.length : Int))), (8, .imm (.int .i64 v3))]) [.mat 1 7 (fun _ => [.imm (.int .i64 g0_0), .imm (.int .i64 g0_1), .imm (.int .i64 g0_2), .imm (.int .i64 g0_3), .imm (.int .i64 g0_4), .imm (.int .i64 g0_5), .imm (.int .i64 v2)])]
def stats_add_m4.Sf (o1 : Int) (g0_0 : Int) (g0_1 : Int) (g0_2 : Int) (g0_3 : Int) (g0_4 : Int) (g0_5 : Int) (k : Nat) : Prop := ∀ (p1 : List (Int)) (g0_6 : Int), stats_add_m4.f k p1 g0_0 g0_1 g0_2 g0_3 g0_4 g0_5 g0_6 = some o1 → Runs stats_add_m4.cx (MutF (.tup []) [.mat 1 7 (fun _ => [.imm (.int .i64 g0_0), .imm (.int .i64 g0_1), .imm (.int .i64 g0_2), .imm (.int .i64 g0_3), .imm (.int .i64 g0_4), .imm (.int .i64 g0_5), .imm (.int .i64 o1)])]) [.code (bodyOf Try.f18)] (frame0 [.loc 0 0 6, vI .i64 p1]) [.mat 1 7 (fun _ => [.imm (.int .i64 g0_0), .imm (.int .i64 g0_1), .imm (.int .i64 g0_2), .imm (.int .i64 g0_3), .imm (.int .i64 g0_4), .imm (.int .i64 g0_5), .imm (.int .i64 g0_6)])]
set_option maxHeartbeats 64000000 in
set_option maxRecDepth 100000 in
theorem stats_add_m4.seg (o1 : Int) (g0_0 : Int) (g0_1 : Int) (g0_2 : Int) (g0_3 : Int) (g0_4 : Int) (g0_5 : Int) : (∀ k, stats_add_m4.Sl0 o1 g0_0 g0_1 g0_2 g0_3 g0_4 g0_5 k) ∧ ∀ k, (stats_add_m4.Sl0 o1 g0_0 g0_1 g0_2 g0_3 g0_4 g0_5 k) → stats_add_m4.Sf o1 g0_0 g0_1 g0_2 g0_3 g0_4 g0_5 k := by
  have hs : ∀ k, (stats_add_m4.Sl0 o1 g0_0 g0_1 g0_2 g0_3 g0_4 g0_5 k) → (stats_add_m4.Sl0 o1 g0_0 g0_1 g0_2 g0_3 g0_4 g0_5 (k + 1)) ∧ stats_add_m4.Sf o1 g0_0 g0_1 g0_2 g0_3 g0_4 g0_5 k := by
    intro k h
    have h_l0 := h
    refine ⟨?_, ?_⟩
    (intro p1 v2 v3 H; rw [stats_add_m4.l0] at H; try dsimp only at H)
    rotate_left
    (intro p1 g0_6 H; unfold stats_add_m4.f at H; try dsimp only at H)
    rotate_left
    repeat' (first
      | ((with_reducible have hJ : stats_add_m4.l0 _ _ _ _ = some _ := H); clear hJ; (with_reducible apply Runs.loop); (apply Runs.le [some 0] (h_l0 _ _ _ H)))
      | ((with_reducible have hJ : stats_add_m4.l0 _ _ _ _ = some _ := H); clear hJ; (with_reducible apply Runs.inLoop); (apply Runs.le [some 0] (h_l0 _ _ _ H)))
      | ((with_reducible replace H := some_ite H); obtain ⟨_, H⟩ := H)
      | ((with_reducible apply ROps.pure); (case hop => rfl); (case hw => rfl); (case hdst => rfl); (case hd => rfl))
      | (with_reducible apply ROps.nil)
      | (with_reducible apply Runs.seq)
      | (with_reducible apply Runs.region tysOK)
      | (with_reducible apply Runs.block)
      | (with_reducible apply Runs.skip)
      | (with_reducible apply Runs.inBlock)
      | (with_reducible apply Runs.scope)
      | (with_reducible apply Runs.inScope)
      | (with_reducible apply Runs.label)
      | ((with_reducible apply Runs.condT); (case ho => rfl))
      | ((with_reducible apply Runs.condF); (case ho => rfl))
      | ((with_reducible apply Runs.exit); (case he => rfl))
      | ((with_reducible apply ROps.store); (case hop => rfl); (case hp => rfl); (case hR => rfl); (case hc => rfl); (case hl => first | (dsimp only [setR_one, setR, Nat.beq, cond]; done) | (dsimp only [setR_one, setR, Nat.beq, cond]; rfl) | rfl); (case hl' => first | (dsimp only [List.take, List.drop, List.append, List.nil_append, List.cons_append, List.map, List.length, Nat.add]; rfl) | rfl); (case hw => rfl); (all_goals try rfl))
      | ((with_reducible apply ROps.cmp); (case hop => exact cmpX); (case hw => rfl); (case hdst => rfl); (case hd => rfl); (all_goals (intro h; first | (replace H := ite_pos_ h H) | (replace H := ite_neg_ h H) | (replace H := ite_pos_ (Decidable.not_not.1 h) H) | ((try simp only [rdOf] at h); (try simp only [rdOf] at H); (rw [if_pos h] at H)) | ((try simp only [rdOf] at h); (try simp only [rdOf] at H); (rw [if_neg h] at H)) | contradiction | skip)))
      | ((with_reducible apply ROps.val); (case hop => exact valX); (case hw => rfl); (case hdst => rfl); (case hd => rfl))
      | ((with_reducible apply ROps.idx); (case hop => rfl); (case hx => rfl); (case hi => rfl); (case he => rfl); (case hw => rfl); (case hdst => rfl); (case hd => rfl); (case h0 => first | assumption | omega); (case h1 => first | assumption | omega))
      | ((with_reducible have hS : some _ = some _ := H); clear hS; cases H; (first | with_reducible apply Runs.retM [some 0] tysOK | with_reducible apply Runs.fallM [some 0] tysOK); (case hrs => rfl); (case h => rfl); (case hx => exact refXX); (case hR => exact leRX))
      | exact leRX
      | (refine Runs.code_eq (p' := .seq _ _) rfl ?_)
      | (refine Runs.code_eq (p' := .region _ _ _) rfl ?_)
      | (refine Runs.code_eq (p' := .cond _ _ _) rfl ?_)
      | (refine Runs.code_eq (p' := .block _ _) rfl ?_)
      | (refine Runs.code_eq (p' := .loop _) rfl ?_)
      | (refine Runs.code_eq (p' := .exit _) rfl ?_)
      | (refine Runs.code_eq (p' := .ret) rfl ?_)
      | (refine Runs.code_eq (p' := .skip) rfl ?_)
      | (refine Runs.code_eq (p' := .label _) rfl ?_)
      | (refine Runs.code_eq (p' := .scope _) rfl ?_))
  refine ⟨fun k => ?_, fun k h => (hs k h).2⟩
  induction k with
  | zero => intro _ _ _ H; rw [stats_add_m4.l0] at H; cases H
  | succ k ih => exact (hs k ih).1
theorem stats_add_m4.okM {k : Nat} {p1 : List (Int)} {g0_0 : Int} {g0_1 : Int} {g0_2 : Int} {g0_3 : Int} {g0_4 : Int} {g0_5 : Int} {g0_6 : Int} {o1 : Int} (H : stats_add_m4.f k p1 g0_0 g0_1 g0_2 g0_3 g0_4 g0_5 g0_6 = some o1) : CallM Try.prog glo 18 [.loc 0 0 6, vI .i64 p1] [.mat 1 7 (fun _ => [.imm (.int .i64 g0_0), .imm (.int .i64 g0_1), .imm (.int .i64 g0_2), .imm (.int .i64 g0_3), .imm (.int .i64 g0_4), .imm (.int .i64 g0_5), .imm (.int .i64 g0_6)])] (.tup []) [.mat 1 7 (fun _ => [.imm (.int .i64 g0_0), .imm (.int .i64 g0_1), .imm (.int .i64 g0_2), .imm (.int .i64 g0_3), .imm (.int .i64 g0_4), .imm (.int .i64 g0_5), .imm (.int .i64 o1)])] :=
  CallM.of (c := stats_add_m4.cx) (p := bodyOf Try.f18) Try.func18 rfl rfl rfl (Nat.le_of_ble_eq_true rfl) rfl sameX bdX ((stats_add_m4.seg o1 g0_0 g0_1 g0_2 g0_3 g0_4 g0_5).2 k ((stats_add_m4.seg o1 g0_0 g0_1 g0_2 g0_3 g0_4 g0_5).1 k) p1 g0_6 H)
end Go.Proofs.Ytopbcamlagdieaa.PStats
set_option linter.unusedVariables false
set_option linter.unusedSimpArgs false
namespace Go.Proofs.Ytopbcamlagdieaa.PStats
open Go.RowKit Go.Proofs.YtopbcamlagdieaaW.PrintWords Go.Proofs.YtopbcamlagdieaaW.PrintLast Go.Proofs.YtopbcamlagdieaaW.PrintMore Go.Proofs.Ytopbcamlagdieaa.Abs
/-! ### stats_Sum: function 7 -/
mutual
def stats_Sum.j0 : Nat → List (S25) → Int → Int → Int → Int → Int → Int → Int → Int → Option (Int × Int × Int × Int × Int × Int × Int)
  | 0, _, _, _, _, _, _, _, _, _ => none
  | k + 1, p0, v8, v2, v3, v4, v5, v6, v7, v9 => ((stats_add.f k ([(rd_T25 p0 v8).f2] : List (Int)) v9 (wrap64 (v2 + 1)) v3 v4 v5 v6 v7).bind fun t10 => ((stats_add_m1.f k ([(rd_T25 p0 v8).f3] : List (Int)) v9 (wrap64 (v2 + 1)) t10 v4 v5 v6 v7).bind fun t11 => ((stats_add_m2.f k ([(rd_T25 p0 v8).f4] : List (Int)) v9 (wrap64 (v2 + 1)) t10 t11 v5 v6 v7).bind fun t12 => ((stats_add_m3.f k ([(rd_T25 p0 v8).f5] : List (Int)) v9 (wrap64 (v2 + 1)) t10 t11 t12 v6 v7).bind fun t13 => ((stats_add_m4.f k ([(rd_T25 p0 v8).f6] : List (Int)) v9 (wrap64 (v2 + 1)) t10 t11 t12 t13 v7).bind fun t14 => (stats_Sum.l0 k p0 v9 (wrap64 (v2 + 1)) t10 t11 t12 t13 t14 (wrap64 (v8 + 1))))))))
def stats_Sum.l0 : Nat → List (S25) → Int → Int → Int → Int → Int → Int → Int → Int → Option (Int × Int × Int × Int × Int × Int × Int)
  | 0, _, _, _, _, _, _, _, _, _ => none
  | k + 1, p0, v1, v2, v3, v4, v5, v6, v7, v8 => (if v8 < (p0.length : Int) then (if 0 ≤ v8 then (if v8 = 0 then (stats_Sum.j0 k p0 v8 v2 v3 v4 v5 v6 v7 (wrap64 (v1 + 1))) else (if 0 ≤ (wrap64 (v8 - 1)) then (if (wrap64 (v8 - 1)) < (p0.length : Int) then (if (rd_T25 p0 (wrap64 (v8 - 1))).f0 = (rd_T25 p0 v8).f0 then (stats_Sum.j0 k p0 v8 v2 v3 v4 v5 v6 v7 v1) else (stats_Sum.j0 k p0 v8 v2 v3 v4 v5 v6 v7 (wrap64 (v1 + 1)))) else none) else none)) else none) else (some (v1, v2, v3, v4, v5, v6, v7)))
end
def stats_Sum.f (k : Nat) (p0 : List (S25)) : Option (Int × Int × Int × Int × Int × Int × Int) := (stats_Sum.l0 k p0 0 0 0 0 0 0 0 0)
noncomputable def stats_Sum.cx : Cx := ⟨Try.prog, tys, glo, 61, Try.f7, [.cell 2 25], 0⟩
def stats_Sum.Sj0 (r0 : Int) (r1 : Int) (r2 : Int) (r3 : Int) (r4 : Int) (r5 : Int) (r6 : Int) (k : Nat) : Prop := ∀ (p0 : List (S25)) (v8 : Int) (v2 : Int) (v3 : Int) (v4 : Int) (v5 : Int) (v6 : Int) (v7 : Int) (v9 : Int), stats_Sum.j0 k p0 v8 v2 v3 v4 v5 v6 v7 v9 = some (r0, r1, r2, r3, r4, r5, r6) → Runs stats_Sum.cx (Pur (.agg [.imm (.int .i64 r0), .imm (.int .i64 r1), .imm (.int .i64 r2), .imm (.int .i64 r3), .imm (.int .i64 r4), .imm (.int .i64 r5), .imm (.int .i64 r6)])) [.code (cP (bodyOf Try.f7) [1, 1, 0, 1, 0, 0, 1, 1, 0, 0, 1, 1]), .inBlock 1, .code (cP (bodyOf Try.f7) [1, 1, 0, 1, 0, 0, 1, 1, 1]), .inLoop (cP (bodyOf Try.f7) [1, 1, 0, 1, 0, 0]), .inBlock 0, .code (cP (bodyOf Try.f7) [1, 1, 1])] (overF none_ [(0, vS25 p0), (2, .loc 0 0 0), (3, .loc 1 0 0), (5, .loc 2 0 0), (6, vS25 p0), (7, .imm (.int .i64 (p0.length : Int))), (8, .imm (.int .i64 v8))]) [.mat 1 7 (fun _ => [.imm (.int .i64 0), .imm (.int .i64 0), .imm (.int .i64 0), .imm (.int .i64 0), .imm (.int .i64 0), .imm (.int .i64 0), .imm (.int .i64 0)]), .mat 1 7 (fun _ => [.imm (.int .i64 v9), .imm (.int .i64 v2), .imm (.int .i64 v3), .imm (.int .i64 v4), .imm (.int .i64 v5), .imm (.int .i64 v6), .imm (.int .i64 v7)]), .mat 1 7 (fun _ => [.imm (.int .i64 (rd_T25 p0 v8).f0), .imm (.int .i64 (rd_T25 p0 v8).f1), .imm (.int .i64 (rd_T25 p0 v8).f2), .imm (.int .i64 (rd_T25 p0 v8).f3), .imm (.int .i64 (rd_T25 p0 v8).f4), .imm (.int .i64 (rd_T25 p0 v8).f5), .imm (.int .i64 (rd_T25 p0 v8).f6)])]
def stats_Sum.Sl0 (r0 : Int) (r1 : Int) (r2 : Int) (r3 : Int) (r4 : Int) (r5 : Int) (r6 : Int) (k : Nat) : Prop := ∀ (p0 : List (S25)) (v1 : Int) (v2 : Int) (v3 : Int) (v4 : Int) (v5 : Int) (v6 : Int) (v7 : Int) (v8 : Int), stats_Sum.l0 k p0 v1 v2 v3 v4 v5 v6 v7 v8 = some (r0, r1, r2, r3, r4, r5, r6) → Runs stats_Sum.cx (Pur (.agg [.imm (.int .i64 r0), .imm (.int .i64 r1), .imm (.int .i64 r2), .imm (.int .i64 r3), .imm (.int .i64 r4), .imm (.int .i64 r5), .imm (.int .i64 r6)])) [.code (cP (bodyOf Try.f7) [1, 1, 0, 1, 0, 0]), .inLoop (cP (bodyOf Try.f7) [1, 1, 0, 1, 0, 0]), .inBlock 0, .code (cP (bodyOf Try.f7) [1, 1, 1])] (overF none_ [(0, vS25 p0), (2, .loc 0 0 0), (3, .loc 1 0 0), (6, vS25 p0), (7, .imm (.int .i64 (p0.length : Int))), (8, .imm (.int .i64 v8))]) [.mat 1 7 (fun _ => [.imm (.int .i64 0), .imm (.int .i64 0), .imm (.int .i64 0), .imm (.int .i64 0), .imm (.int .i64 0), .imm (.int .i64 0), .imm (.int .i64 0)]), .mat 1 7 (fun _ => [.imm (.int .i64 v1), .imm (.int .i64 v2), .imm (.int .i64 v3), .imm (.int .i64 v4), .imm (.int .i64 v5), .imm (.int .i64 v6), .imm (.int .i64 v7)])]
def stats_Sum.Sf (r0 : Int) (r1 : Int) (r2 : Int) (r3 : Int) (r4 : Int) (r5 : Int) (r6 : Int) (k : Nat) : Prop := ∀ (p0 : List (S25)), stats_Sum.f k p0 = some (r0, r1, r2, r3, r4, r5, r6) → Runs stats_Sum.cx (Pur (.agg [.imm (.int .i64 r0), .imm (.int .i64 r1), .imm (.int .i64 r2), .imm (.int .i64 r3), .imm (.int .i64 r4), .imm (.int .i64 r5), .imm (.int .i64 r6)])) [.code (bodyOf Try.f7)] (frame0 [vS25 p0]) []
set_option maxHeartbeats 64000000 in
set_option maxRecDepth 100000 in
theorem stats_Sum.seg (r0 : Int) (r1 : Int) (r2 : Int) (r3 : Int) (r4 : Int) (r5 : Int) (r6 : Int) : (∀ k, stats_Sum.Sj0 r0 r1 r2 r3 r4 r5 r6 k ∧ stats_Sum.Sl0 r0 r1 r2 r3 r4 r5 r6 k) ∧ ∀ k, (stats_Sum.Sj0 r0 r1 r2 r3 r4 r5 r6 k ∧ stats_Sum.Sl0 r0 r1 r2 r3 r4 r5 r6 k) → stats_Sum.Sf r0 r1 r2 r3 r4 r5 r6 k := by
  have hs : ∀ k, (stats_Sum.Sj0 r0 r1 r2 r3 r4 r5 r6 k ∧ stats_Sum.Sl0 r0 r1 r2 r3 r4 r5 r6 k) → (stats_Sum.Sj0 r0 r1 r2 r3 r4 r5 r6 (k + 1) ∧ stats_Sum.Sl0 r0 r1 r2 r3 r4 r5 r6 (k + 1)) ∧ stats_Sum.Sf r0 r1 r2 r3 r4 r5 r6 k := by
    intro k h
    obtain ⟨h_j0, h_l0⟩ := h
    refine ⟨⟨?_, ?_⟩, ?_⟩
    (intro p0 v8 v2 v3 v4 v5 v6 v7 v9 H; rw [stats_Sum.j0] at H; try dsimp only at H)
    rotate_left
    (intro p0 v1 v2 v3 v4 v5 v6 v7 v8 H; rw [stats_Sum.l0] at H; try dsimp only at H)
    rotate_left
    (intro p0 H; unfold stats_Sum.f at H; try dsimp only at H)
    rotate_left
    repeat' (first
      | ((with_reducible have hJ : stats_Sum.j0 _ _ _ _ _ _ _ _ _ _ = some _ := H); clear hJ; (apply Runs.le [_, _, _] (h_j0 _ _ _ _ _ _ _ _ _ H)))
      | ((with_reducible have hJ : stats_Sum.l0 _ _ _ _ _ _ _ _ _ _ = some _ := H); clear hJ; (with_reducible apply Runs.loop); (apply Runs.le [_, _] (h_l0 _ _ _ _ _ _ _ _ _ H)))
      | ((with_reducible have hJ : stats_Sum.l0 _ _ _ _ _ _ _ _ _ _ = some _ := H); clear hJ; (with_reducible apply Runs.inLoop); (apply Runs.le [_, _] (h_l0 _ _ _ _ _ _ _ _ _ H)))
      | ((with_reducible replace H := some_ite H); obtain ⟨_, H⟩ := H)
      | ((first | with_reducible apply ROps.pure | with_reducible apply DOps.pure); (case hop => rfl); (case hw => rfl); (case hdst => rfl); (case hd => rfl))
      | (first | with_reducible apply ROps.nil | with_reducible apply DOps.nil)
      | (with_reducible apply Runs.seq)
      | (with_reducible apply Runs.region tysOK)
      | ((with_reducible apply Runs.drawnE [] tysOK mixed); (case hB => kernel_rfl))
      | (with_reducible apply Runs.block)
      | (with_reducible apply Runs.skip)
      | (with_reducible apply Runs.inBlock)
      | (with_reducible apply Runs.scope)
      | (with_reducible apply Runs.inScope)
      | (with_reducible apply Runs.label)
      | ((with_reducible apply Runs.condT); (case ho => rfl))
      | ((with_reducible apply Runs.condF); (case ho => rfl))
      | ((with_reducible apply Runs.exit); (case he => rfl))
      | ((first | with_reducible apply ROps.store | with_reducible apply DOps.store); (case hop => rfl); (case hp => rfl); (case hR => rfl); (case hc => rfl); (case hl => first | (dsimp only [setR_one, setR, Nat.beq, cond]; done) | (dsimp only [setR_one, setR, Nat.beq, cond]; rfl) | rfl); (case hl' => first | (dsimp only [List.take, List.drop, List.append, List.nil_append, List.cons_append, List.map, List.length, Nat.add]; rfl) | rfl); (case hw => rfl); (all_goals try rfl))
      | ((first | with_reducible apply ROps.cmp | with_reducible apply DOps.cmp); (case hop => exact cmpX); (case hw => rfl); (case hdst => rfl); (case hd => rfl); (all_goals (intro h; first | (replace H := ite_pos_ h H) | (replace H := ite_neg_ h H) | (replace H := ite_pos_ (Decidable.not_not.1 h) H) | ((try simp only [rd_T25, rdOf] at h); (try simp only [rd_T25, rdOf] at H); (rw [if_pos h] at H)) | ((try simp only [rd_T25, rdOf] at h); (try simp only [rd_T25, rdOf] at H); (rw [if_neg h] at H)) | contradiction | skip)))
      | ((first | with_reducible apply ROps.val | with_reducible apply DOps.val); (case hop => exact valX); (case hw => rfl); (case hdst => rfl); (case hd => rfl))
      | ((first | (with_reducible apply ROps.eqS; case hop => rfl) | (with_reducible apply DOps.eqS; case hop => rfl) | (with_reducible apply ROps.neS; case hop => rfl) | (with_reducible apply DOps.neS; case hop => rfl)); (case ht => rfl); (case hx => rfl); (case hy => rfl); (case hl => rfl); (case hr => rfl); (case hw => rfl); (case hdst => rfl); (case hd => rfl); (all_goals (intro h; first | (replace H := ite_posF H h) | (replace H := ite_negF H h) | (dsimp only [eqP, eqA] at h) | skip)))
      | ((first | with_reducible apply ROps.idx | with_reducible apply DOps.idx); (case hop => rfl); (case hx => rfl); (case hi => rfl); (case he => rfl); (case hw => rfl); (case hdst => rfl); (case hd => rfl); (case h0 => first | assumption | omega); (case h1 => first | assumption | omega))
      | ((with_reducible apply ROps.alloc); (case hop => rfl); (case hw => rfl); (all_goals try rfl))
      | ((first | with_reducible apply ROps.lit | with_reducible apply DOps.lit); (case hop => rfl); (case hti => rfl); (case hsz => rfl); (case hl => rfl); (case hrf => rfl); (case hw => rfl); (all_goals try rfl))
      | ((first | with_reducible apply ROps.off | with_reducible apply DOps.off); (case hw => rfl); (case hdst => rfl); (case hd => rfl))
      | ((with_reducible have hB : (stats_add.f _ _ _ _ _ _ _ _ _).bind _ = some _ := H); clear hB; (replace H := bind_some' H); (obtain ⟨t_, H1, H⟩ := H); (try dsimp only at H); (with_reducible apply ROps.callM [1]); (case hop => rfl); (case hc => exact stats_add.okM H1); (case hh => exact handsX); (case hn => rfl); (case ha => exact argsMX); (case hRn => rfl); (case hx => rfl); (case hw => rfl); (case hdst => rfl); (case hd => rfl))
      | ((with_reducible have hB : (stats_add_m1.f _ _ _ _ _ _ _ _ _).bind _ = some _ := H); clear hB; (replace H := bind_some' H); (obtain ⟨t_, H1, H⟩ := H); (try dsimp only at H); (with_reducible apply ROps.callM [1]); (case hop => rfl); (case hc => exact stats_add_m1.okM H1); (case hh => exact handsX); (case hn => rfl); (case ha => exact argsMX); (case hRn => rfl); (case hx => rfl); (case hw => rfl); (case hdst => rfl); (case hd => rfl))
      | ((with_reducible have hB : (stats_add_m2.f _ _ _ _ _ _ _ _ _).bind _ = some _ := H); clear hB; (replace H := bind_some' H); (obtain ⟨t_, H1, H⟩ := H); (try dsimp only at H); (with_reducible apply ROps.callM [1]); (case hop => rfl); (case hc => exact stats_add_m2.okM H1); (case hh => exact handsX); (case hn => rfl); (case ha => exact argsMX); (case hRn => rfl); (case hx => rfl); (case hw => rfl); (case hdst => rfl); (case hd => rfl))
      | ((with_reducible have hB : (stats_add_m3.f _ _ _ _ _ _ _ _ _).bind _ = some _ := H); clear hB; (replace H := bind_some' H); (obtain ⟨t_, H1, H⟩ := H); (try dsimp only at H); (with_reducible apply ROps.callM [1]); (case hop => rfl); (case hc => exact stats_add_m3.okM H1); (case hh => exact handsX); (case hn => rfl); (case ha => exact argsMX); (case hRn => rfl); (case hx => rfl); (case hw => rfl); (case hdst => rfl); (case hd => rfl))
      | ((with_reducible have hB : (stats_add_m4.f _ _ _ _ _ _ _ _ _).bind _ = some _ := H); clear hB; (replace H := bind_some' H); (obtain ⟨t_, H1, H⟩ := H); (try dsimp only at H); (with_reducible apply ROps.callM [1]); (case hop => rfl); (case hc => exact stats_add_m4.okM H1); (case hh => exact handsX); (case hn => rfl); (case ha => exact argsMX); (case hRn => rfl); (case hx => rfl); (case hw => rfl); (case hdst => rfl); (case hd => rfl))
      | ((with_reducible apply Runs.retP tysOK); (case hrs => rfl); (case h => rfl); (case hr => (cases H; exact refX)); (case hx => rfl))
      | exact leRX
      | (refine Runs.code_eq (p' := .seq _ _) rfl ?_)
      | (refine Runs.code_eq (p' := .region _ _ _) rfl ?_)
      | (refine Runs.code_eq (p' := .cond _ _ _) rfl ?_)
      | (refine Runs.code_eq (p' := .block _ _) rfl ?_)
      | (refine Runs.code_eq (p' := .loop _) rfl ?_)
      | (refine Runs.code_eq (p' := .exit _) rfl ?_)
      | (refine Runs.code_eq (p' := .ret) rfl ?_)
      | (refine Runs.code_eq (p' := .skip) rfl ?_)
      | (refine Runs.code_eq (p' := .label _) rfl ?_)
      | (refine Runs.code_eq (p' := .scope _) rfl ?_))
  refine ⟨fun k => ?_, fun k h => (hs k h).2⟩
  induction k with
  | zero => exact ⟨(by intro _ _ _ _ _ _ _ _ _ H; rw [stats_Sum.j0] at H; cases H), (by intro _ _ _ _ _ _ _ _ _ H; rw [stats_Sum.l0] at H; cases H)⟩
  | succ k ih => exact (hs k ih).1
theorem stats_Sum.ok {k : Nat} {p0 : List (S25)} {r0 : Int} {r1 : Int} {r2 : Int} {r3 : Int} {r4 : Int} {r5 : Int} {r6 : Int} (H : stats_Sum.f k p0 = some (r0, r1, r2, r3, r4, r5, r6)) : CallOK Try.prog glo 7 [vS25 p0] (.agg [.imm (.int .i64 r0), .imm (.int .i64 r1), .imm (.int .i64 r2), .imm (.int .i64 r3), .imm (.int .i64 r4), .imm (.int .i64 r5), .imm (.int .i64 r6)]) :=
  CallOK.of (c := stats_Sum.cx) (p := bodyOf Try.f7) Try.func7 rfl rfl rfl (Nat.le_of_ble_eq_true rfl) rfl ((stats_Sum.seg r0 r1 r2 r3 r4 r5 r6).2 k ((stats_Sum.seg r0 r1 r2 r3 r4 r5 r6).1 k) p0 H)
end Go.Proofs.Ytopbcamlagdieaa.PStats
set_option linter.unusedVariables false
set_option linter.unusedSimpArgs false
namespace Go.Proofs.Ytopbcamlagdieaa.PStats
open Go.RowKit Go.Proofs.YtopbcamlagdieaaW.PrintWords Go.Proofs.YtopbcamlagdieaaW.PrintLast Go.Proofs.YtopbcamlagdieaaW.PrintMore Go.Proofs.Ytopbcamlagdieaa.Abs
/-! ### boarderlaw26_knows: function 6 -/
def boarderlaw26_knows.f (k : Nat) : Option (Bool) := ((boarderlaw13_Plain.f).bind fun b1 => ((stats_Count.f k b1.1 b1.2.1 b1.2.2 ([] : List (S68)) 5).bind fun b2 => ((stats_Sum.f k b2.1).bind fun b3 => ((boarderlaw13_Plain.f).bind fun b4 => ((stats_Wait.f k b4.1 b4.2.1 b4.2.2 ([] : List (S68)) 0 5).bind fun b5 => (if (b2.1.length : Int) = 1 then (if 0 ≤ 0 then (if 0 < (b2.1.length : Int) then (if (rd_T25 b2.1 0).f0 = 0 ∧ (rd_T25 b2.1 0).f1 = 0 ∧ (rd_T25 b2.1 0).f2 = 11 ∧ (rd_T25 b2.1 0).f3 = 1 ∧ (rd_T25 b2.1 0).f4 = 0 ∧ (rd_T25 b2.1 0).f5 = 0 ∧ (rd_T25 b2.1 0).f6 = 11 then (if b2.2 = 0 then (if b3.1 = 1 ∧ b3.2.1 = 1 ∧ b3.2.2.1 = 11 ∧ b3.2.2.2.1 = 1 ∧ b3.2.2.2.2.1 = 0 ∧ b3.2.2.2.2.2.1 = 0 ∧ b3.2.2.2.2.2.2 = 11 then (if b5.1 = 0 then (some b5.2) else (some false)) else (some false)) else (some false)) else (some false)) else none) else none) else (some false)))))))
noncomputable def boarderlaw26_knows.cx : Cx := ⟨Try.prog, tys, glo, 44, Try.f6, [.tmp 0], 0⟩
def boarderlaw26_knows.Sf (r0 : Bool) (k : Nat) : Prop := boarderlaw26_knows.f k = some r0 → Runs boarderlaw26_knows.cx (Pur (.imm (.bool r0))) [.code (bodyOf Try.f6)] (frame0 []) []
set_option maxHeartbeats 64000000 in
set_option maxRecDepth 100000 in
theorem boarderlaw26_knows.seg (r0 : Bool) (k : Nat) : boarderlaw26_knows.Sf r0 k := by
  intro H
  unfold boarderlaw26_knows.f at H
  try dsimp only at H
  repeat' (first
    | ((with_reducible replace H := some_ite H); obtain ⟨_, H⟩ := H)
    | ((with_reducible apply ROps.build); (case hb => rfl); (case hop => rfl); (case hl => first | (dsimp only [List.take, List.drop, List.nil_append, List.cons_append, List.map, List.length, Nat.reduceAdd]; rfl) | rfl); (case hw => rfl); (case hdst => rfl); (case hd => rfl))
    | ((with_reducible apply ROps.pure); (case hop => rfl); (case hw => rfl); (case hdst => rfl); (case hd => rfl))
    | (with_reducible apply ROps.nil)
    | (with_reducible apply Runs.seq)
    | (with_reducible apply Runs.region tysOK)
    | (with_reducible apply Runs.scope)
    | (with_reducible apply Runs.inScope)
    | (with_reducible apply Runs.label)
    | ((with_reducible apply ROps.store); (case hop => rfl); (case hp => rfl); (case hR => rfl); (case hc => rfl); (case hl => first | (dsimp only [setR_one, setR, Nat.beq, cond]; done) | (dsimp only [setR_one, setR, Nat.beq, cond]; rfl) | rfl); (case hl' => first | (dsimp only [List.take, List.drop, List.append, List.nil_append, List.cons_append, List.map, List.length, Nat.add]; rfl) | rfl); (case hw => rfl); (all_goals try rfl))
    | ((with_reducible apply ROps.cmp); (case hop => exact cmpX); (case hw => rfl); (case hdst => rfl); (case hd => rfl); (all_goals (intro h; first | (replace H := ite_pos_ h H) | (replace H := ite_neg_ h H) | (replace H := ite_pos_ (Decidable.not_not.1 h) H) | ((try simp only [rd_T25, rdOf] at h); (try simp only [rd_T25, rdOf] at H); (rw [if_pos h] at H)) | ((try simp only [rd_T25, rdOf] at h); (try simp only [rd_T25, rdOf] at H); (rw [if_neg h] at H)) | contradiction | skip)))
    | ((with_reducible apply ROps.val); (case hop => exact valX); (case hw => rfl); (case hdst => rfl); (case hd => rfl))
    | ((first | (with_reducible apply ROps.eqS; case hop => rfl) | (with_reducible apply ROps.neS; case hop => rfl)); (case ht => rfl); (case hx => rfl); (case hy => rfl); (case hl => rfl); (case hr => rfl); (case hw => rfl); (case hdst => rfl); (case hd => rfl); (all_goals (intro h; first | (replace H := ite_posF H h) | (replace H := ite_negF H h) | (dsimp only [eqP, eqA] at h) | skip)))
    | ((with_reducible apply ROps.idx); (case hop => rfl); (case hx => rfl); (case hi => rfl); (case he => rfl); (case hw => rfl); (case hdst => rfl); (case hd => rfl); (case h0 => first | assumption | omega); (case h1 => first | assumption | omega))
    | ((with_reducible apply ROps.alloc); (case hop => rfl); (case hw => rfl); (all_goals try rfl))
    | ((with_reducible apply ROps.off); (case hw => rfl); (case hdst => rfl); (case hd => rfl))
    | ((with_reducible have hB : (boarderlaw13_Plain.f).bind _ = some _ := H); clear hB; (replace H := bind_some' H); (obtain ⟨⟨t_0, t_1, t_2⟩, H1, H⟩ := H); (try dsimp only at H); (with_reducible apply ROps.call); (case hop => rfl); (case hc => exact boarderlaw13_Plain.ok H1); (case ha => exact argsX); (case hw => rfl); (case hdst => rfl); (case hd => rfl))
    | ((with_reducible have hB : (stats_Count.f _ _ _ _ _ _).bind _ = some _ := H); clear hB; (replace H := bind_some' H); (obtain ⟨⟨t_0, t_1⟩, H1, H⟩ := H); (try dsimp only at H); (with_reducible apply ROps.call); (case hop => rfl); (case hc => exact stats_Count.ok H1); (case ha => exact argsX); (case hw => rfl); (case hdst => rfl); (case hd => rfl))
    | ((with_reducible have hB : (stats_Sum.f _ _).bind _ = some _ := H); clear hB; (replace H := bind_some' H); (obtain ⟨⟨t_0, t_1, t_2, t_3, t_4, t_5, t_6⟩, H1, H⟩ := H); (try dsimp only at H); (with_reducible apply ROps.call); (case hop => rfl); (case hc => exact stats_Sum.ok H1); (case ha => exact argsX); (case hw => rfl); (case hdst => rfl); (case hd => rfl))
    | ((with_reducible have hB : (stats_Wait.f _ _ _ _ _ _ _).bind _ = some _ := H); clear hB; (replace H := bind_some' H); (obtain ⟨⟨t_0, t_1⟩, H1, H⟩ := H); (try dsimp only at H); (with_reducible apply ROps.call); (case hop => rfl); (case hc => exact stats_Wait.ok H1); (case ha => exact argsX); (case hw => rfl); (case hdst => rfl); (case hd => rfl))
    | ((with_reducible apply Runs.retP tysOK); (case hrs => rfl); (case h => rfl); (case hr => (cases H; exact refX)); (case hx => rfl))
    | exact leRX
    | (refine Runs.code_eq (p' := .seq _ _) rfl ?_)
    | (refine Runs.code_eq (p' := .region _ _ _) rfl ?_)
    | (refine Runs.code_eq (p' := .cond _ _ _) rfl ?_)
    | (refine Runs.code_eq (p' := .block _ _) rfl ?_)
    | (refine Runs.code_eq (p' := .loop _) rfl ?_)
    | (refine Runs.code_eq (p' := .exit _) rfl ?_)
    | (refine Runs.code_eq (p' := .ret) rfl ?_)
    | (refine Runs.code_eq (p' := .skip) rfl ?_)
    | (refine Runs.code_eq (p' := .label _) rfl ?_)
    | (refine Runs.code_eq (p' := .scope _) rfl ?_))
theorem boarderlaw26_knows.ok {k : Nat} {r0 : Bool} (H : boarderlaw26_knows.f k = some r0) : CallOK Try.prog glo 6 [] (.imm (.bool r0)) :=
  CallOK.of (c := boarderlaw26_knows.cx) (p := bodyOf Try.f6) Try.func6 rfl rfl rfl (Nat.le_of_ble_eq_true rfl) rfl (boarderlaw26_knows.seg r0 k H)
end Go.Proofs.Ytopbcamlagdieaa.PStats
set_option linter.unusedVariables false
namespace Go.Proofs.Ytopbcamlagdieaa.PStats
open Go.RowKit Go.Proofs.YtopbcamlagdieaaW.PrintWords Go.Proofs.YtopbcamlagdieaaW.PrintLast Go.Proofs.YtopbcamlagdieaaW.PrintMore
set_option maxHeartbeats 8000000 in
theorem stats_add.mono_l : ∀ k, (∀ y0 y1 y2, LeO (stats_add.l0 k y0 y1 y2) (stats_add.l0 (k + 1) y0 y1 y2))
  | 0 => fun _ _ _ r h => by simp [stats_add.l0] at h
  | k + 1 => by
    have ih0 := stats_add.mono_l k
    intro y0 y1 y2
    unfold stats_add.l0
    all_goals (repeat' first
      | (with_reducible exact ih0 _ _ _)
      | (with_reducible exact LeO.refl _)
      | (with_reducible exact LeO.none _)
      | (with_reducible refine LeO.ite ?_ ?_)
      | (with_reducible refine LeO.bind ?_ (fun _ => ?_)))
theorem stats_add.mono : ∀ a0 a1 a2 a3 a4 a5 a6 a7 k, LeO (stats_add.f k a0 a1 a2 a3 a4 a5 a6 a7) (stats_add.f (k + 1) a0 a1 a2 a3 a4 a5 a6 a7) := by
 intro a0 a1 a2 a3 a4 a5 a6 a7 k
 have ih0 := stats_add.mono_l k
 unfold stats_add.f
 repeat' first
  | (with_reducible exact ih0 _ _ _)
  | (with_reducible exact LeO.refl _)
  | (with_reducible exact LeO.none _)
  | (with_reducible refine LeO.ite ?_ ?_)
  | (with_reducible refine LeO.bind ?_ (fun _ => ?_))
set_option maxHeartbeats 8000000 in
theorem table_Right.mono_l : ∀ k, (∀ y0 y1 y2 y3, LeO (table_Right.l0 k y0 y1 y2 y3) (table_Right.l0 (k + 1) y0 y1 y2 y3))
  | 0 => fun _ _ _ _ r h => by simp [table_Right.l0] at h
  | k + 1 => by
    have ih0 := table_Right.mono_l k
    intro y0 y1 y2 y3
    unfold table_Right.l0
    all_goals (repeat' first
      | (with_reducible exact ih0 _ _ _ _)
      | (with_reducible exact LeO.refl _)
      | (with_reducible exact LeO.none _)
      | (with_reducible refine LeO.ite ?_ ?_)
      | (with_reducible refine LeO.bind ?_ (fun _ => ?_)))
theorem table_Right.mono : ∀ a0 k, LeO (table_Right.f k a0) (table_Right.f (k + 1) a0) := by
 intro a0 k
 have ih0 := table_Right.mono_l k
 unfold table_Right.f
 repeat' first
  | (with_reducible exact ih0 _ _ _ _)
  | (with_reducible exact LeO.refl _)
  | (with_reducible exact LeO.none _)
  | (with_reducible refine LeO.ite ?_ ?_)
  | (with_reducible refine LeO.bind ?_ (fun _ => ?_))
theorem table_good.mono : ∀ a0 k, LeO (table_good.f k a0) (table_good.f (k + 1) a0) := by
 intro a0 k
 unfold table_good.f
 repeat' first
  | (with_reducible exact table_Right.mono _ _)
  | (with_reducible exact LeO.refl _)
  | (with_reducible exact LeO.none _)
  | (with_reducible refine LeO.ite ?_ ?_)
  | (with_reducible refine LeO.bind ?_ (fun _ => ?_))
set_option maxHeartbeats 8000000 in
theorem table_place.mono_l : ∀ k, (∀ y0 y1 y2 y3, LeO (table_place.l0 k y0 y1 y2 y3) (table_place.l0 (k + 1) y0 y1 y2 y3))
  | 0 => fun _ _ _ _ r h => by simp [table_place.l0] at h
  | k + 1 => by
    have ih0 := table_place.mono_l k
    intro y0 y1 y2 y3
    unfold table_place.l0
    all_goals (repeat' first
      | (with_reducible exact ih0 _ _ _ _)
      | (with_reducible exact LeO.refl _)
      | (with_reducible exact LeO.none _)
      | (with_reducible refine LeO.ite ?_ ?_)
      | (with_reducible refine LeO.bind ?_ (fun _ => ?_)))
theorem table_place.mono : ∀ a0 a1 k, LeO (table_place.f k a0 a1) (table_place.f (k + 1) a0 a1) := by
 intro a0 a1 k
 have ih0 := table_place.mono_l k
 unfold table_place.f
 repeat' first
  | (with_reducible exact ih0 _ _ _ _)
  | (with_reducible exact LeO.refl _)
  | (with_reducible exact LeO.none _)
  | (with_reducible refine LeO.ite ?_ ?_)
  | (with_reducible refine LeO.bind ?_ (fun _ => ?_))
theorem table_Get.mono : ∀ a0 a1 k, LeO (table_Get.f k a0 a1) (table_Get.f (k + 1) a0 a1) := by
 intro a0 a1 k
 unfold table_Get.f
 repeat' first
  | (with_reducible exact table_good.mono _ _)
  | (with_reducible exact table_place.mono _ _ _)
  | (with_reducible exact LeO.refl _)
  | (with_reducible exact LeO.none _)
  | (with_reducible refine LeO.ite ?_ ?_)
  | (with_reducible refine LeO.bind ?_ (fun _ => ?_))
set_option maxHeartbeats 8000000 in
theorem stats_some.mono_l : ∀ k, (∀ y0 y1 y2 y3, LeO (stats_some.l0 k y0 y1 y2 y3) (stats_some.l0 (k + 1) y0 y1 y2 y3)) ∧ (∀ y0 y1 y2 y3, LeO (stats_some.l1 k y0 y1 y2 y3) (stats_some.l1 (k + 1) y0 y1 y2 y3)) ∧ (∀ y0 y1 y2 y3 y4, LeO (stats_some.l2 k y0 y1 y2 y3 y4) (stats_some.l2 (k + 1) y0 y1 y2 y3 y4)) ∧ (∀ y0 y1 y2 y3 y4 y5, LeO (stats_some.l3 k y0 y1 y2 y3 y4 y5) (stats_some.l3 (k + 1) y0 y1 y2 y3 y4 y5))
  | 0 => ⟨fun _ _ _ _ r h => by simp [stats_some.l0] at h, fun _ _ _ _ r h => by simp [stats_some.l1] at h, fun _ _ _ _ _ r h => by simp [stats_some.l2] at h, fun _ _ _ _ _ _ r h => by simp [stats_some.l3] at h⟩
  | k + 1 => by
    obtain ⟨ih0, ih1, ih2, ih3⟩ := stats_some.mono_l k
    refine ⟨?_, ?_, ?_, ?_⟩
    · intro y0 y1 y2 y3
      unfold stats_some.l0
      all_goals (repeat' first
      | (with_reducible exact ih0 _ _ _ _)
      | (with_reducible exact ih1 _ _ _ _)
      | (with_reducible exact ih2 _ _ _ _ _)
      | (with_reducible exact ih3 _ _ _ _ _ _)
      | (with_reducible exact table_Get.mono _ _ _)
      | (with_reducible exact LeO.refl _)
      | (with_reducible exact LeO.none _)
      | (with_reducible refine LeO.ite ?_ ?_)
      | (with_reducible refine LeO.bind ?_ (fun _ => ?_)))
    · intro y0 y1 y2 y3
      unfold stats_some.l1
      all_goals (repeat' first
      | (with_reducible exact ih0 _ _ _ _)
      | (with_reducible exact ih1 _ _ _ _)
      | (with_reducible exact ih2 _ _ _ _ _)
      | (with_reducible exact ih3 _ _ _ _ _ _)
      | (with_reducible exact table_Get.mono _ _ _)
      | (with_reducible exact LeO.refl _)
      | (with_reducible exact LeO.none _)
      | (with_reducible refine LeO.ite ?_ ?_)
      | (with_reducible refine LeO.bind ?_ (fun _ => ?_)))
    · intro y0 y1 y2 y3 y4
      unfold stats_some.l2
      all_goals (repeat' first
      | (with_reducible exact ih0 _ _ _ _)
      | (with_reducible exact ih1 _ _ _ _)
      | (with_reducible exact ih2 _ _ _ _ _)
      | (with_reducible exact ih3 _ _ _ _ _ _)
      | (with_reducible exact table_Get.mono _ _ _)
      | (with_reducible exact LeO.refl _)
      | (with_reducible exact LeO.none _)
      | (with_reducible refine LeO.ite ?_ ?_)
      | (with_reducible refine LeO.bind ?_ (fun _ => ?_)))
    · intro y0 y1 y2 y3 y4 y5
      unfold stats_some.l3
      all_goals (repeat' first
      | (with_reducible exact ih0 _ _ _ _)
      | (with_reducible exact ih1 _ _ _ _)
      | (with_reducible exact ih2 _ _ _ _ _)
      | (with_reducible exact ih3 _ _ _ _ _ _)
      | (with_reducible exact table_Get.mono _ _ _)
      | (with_reducible exact LeO.refl _)
      | (with_reducible exact LeO.none _)
      | (with_reducible refine LeO.ite ?_ ?_)
      | (with_reducible refine LeO.bind ?_ (fun _ => ?_)))
theorem stats_some.mono : ∀ a0 a1 a2 a3 k, LeO (stats_some.f k a0 a1 a2 a3) (stats_some.f (k + 1) a0 a1 a2 a3) := by
 intro a0 a1 a2 a3 k
 obtain ⟨ih0, ih1, ih2, ih3⟩ := stats_some.mono_l k
 unfold stats_some.f
 repeat' first
  | (with_reducible exact ih0 _ _ _ _)
  | (with_reducible exact ih1 _ _ _ _)
  | (with_reducible exact ih2 _ _ _ _ _)
  | (with_reducible exact ih3 _ _ _ _ _ _)
  | (with_reducible exact table_Get.mono _ _ _)
  | (with_reducible exact LeO.refl _)
  | (with_reducible exact LeO.none _)
  | (with_reducible refine LeO.ite ?_ ?_)
  | (with_reducible refine LeO.bind ?_ (fun _ => ?_))
set_option maxHeartbeats 8000000 in
theorem stats_in.mono_l : ∀ k, (∀ y0 y1 y2 y3, LeO (stats_in.l0 k y0 y1 y2 y3) (stats_in.l0 (k + 1) y0 y1 y2 y3))
  | 0 => fun _ _ _ _ r h => by simp [stats_in.l0] at h
  | k + 1 => by
    have ih0 := stats_in.mono_l k
    intro y0 y1 y2 y3
    unfold stats_in.l0
    all_goals (repeat' first
      | (with_reducible exact ih0 _ _ _ _)
      | (with_reducible exact LeO.refl _)
      | (with_reducible exact LeO.none _)
      | (with_reducible refine LeO.ite ?_ ?_)
      | (with_reducible refine LeO.bind ?_ (fun _ => ?_)))
theorem stats_in.mono : ∀ a0 a1 a2 a3 a4 a5 a6 a7 k, LeO (stats_in.f k a0 a1 a2 a3 a4 a5 a6 a7) (stats_in.f (k + 1) a0 a1 a2 a3 a4 a5 a6 a7) := by
 intro a0 a1 a2 a3 a4 a5 a6 a7 k
 have ih0 := stats_in.mono_l k
 unfold stats_in.f
 repeat' first
  | (with_reducible exact ih0 _ _ _ _)
  | (with_reducible exact LeO.refl _)
  | (with_reducible exact LeO.none _)
  | (with_reducible refine LeO.ite ?_ ?_)
  | (with_reducible refine LeO.bind ?_ (fun _ => ?_))
set_option maxHeartbeats 8000000 in
theorem conf_spots.mono_l : ∀ k, (∀ y0 y1 y2 y3, LeO (conf_spots.l0 k y0 y1 y2 y3) (conf_spots.l0 (k + 1) y0 y1 y2 y3)) ∧ (∀ y0 y1 y2 y3 y4 y5 y6 y7, LeO (conf_spots.l1 k y0 y1 y2 y3 y4 y5 y6 y7) (conf_spots.l1 (k + 1) y0 y1 y2 y3 y4 y5 y6 y7))
  | 0 => ⟨fun _ _ _ _ r h => by simp [conf_spots.l0] at h, fun _ _ _ _ _ _ _ _ r h => by simp [conf_spots.l1] at h⟩
  | k + 1 => by
    obtain ⟨ih0, ih1⟩ := conf_spots.mono_l k
    refine ⟨?_, ?_⟩
    · intro y0 y1 y2 y3
      unfold conf_spots.l0
      all_goals (repeat' first
      | (with_reducible exact ih0 _ _ _ _)
      | (with_reducible exact ih1 _ _ _ _ _ _ _ _)
      | (with_reducible exact LeO.refl _)
      | (with_reducible exact LeO.none _)
      | (with_reducible refine LeO.ite ?_ ?_)
      | (with_reducible refine LeO.bind ?_ (fun _ => ?_)))
    · intro y0 y1 y2 y3 y4 y5 y6 y7
      unfold conf_spots.l1
      all_goals (repeat' first
      | (with_reducible exact ih0 _ _ _ _)
      | (with_reducible exact ih1 _ _ _ _ _ _ _ _)
      | (with_reducible exact LeO.refl _)
      | (with_reducible exact LeO.none _)
      | (with_reducible refine LeO.ite ?_ ?_)
      | (with_reducible refine LeO.bind ?_ (fun _ => ?_)))
theorem conf_spots.mono : ∀ a0 a1 a2 k, LeO (conf_spots.f k a0 a1 a2) (conf_spots.f (k + 1) a0 a1 a2) := by
 intro a0 a1 a2 k
 obtain ⟨ih0, ih1⟩ := conf_spots.mono_l k
 unfold conf_spots.f
 repeat' first
  | (with_reducible exact ih0 _ _ _ _)
  | (with_reducible exact ih1 _ _ _ _ _ _ _ _)
  | (with_reducible exact LeO.refl _)
  | (with_reducible exact LeO.none _)
  | (with_reducible refine LeO.ite ?_ ?_)
  | (with_reducible refine LeO.bind ?_ (fun _ => ?_))
set_option maxHeartbeats 8000000 in
theorem conf_fair.mono_l : ∀ k, (∀ y0 y1 y2 y3 y4 y5 y6 y7, LeO (conf_fair.j0 k y0 y1 y2 y3 y4 y5 y6 y7) (conf_fair.j0 (k + 1) y0 y1 y2 y3 y4 y5 y6 y7)) ∧ (∀ y0 y1 y2 y3 y4 y5 y6 y7 y8 y9, LeO (conf_fair.l0 k y0 y1 y2 y3 y4 y5 y6 y7 y8 y9) (conf_fair.l0 (k + 1) y0 y1 y2 y3 y4 y5 y6 y7 y8 y9)) ∧ (∀ y0 y1 y2, LeO (conf_fair.l1 k y0 y1 y2) (conf_fair.l1 (k + 1) y0 y1 y2))
  | 0 => ⟨fun _ _ _ _ _ _ _ _ r h => by simp [conf_fair.j0] at h, fun _ _ _ _ _ _ _ _ _ _ r h => by simp [conf_fair.l0] at h, fun _ _ _ r h => by simp [conf_fair.l1] at h⟩
  | k + 1 => by
    obtain ⟨ih0, ih1, ih2⟩ := conf_fair.mono_l k
    refine ⟨?_, ?_, ?_⟩
    · intro y0 y1 y2 y3 y4 y5 y6 y7
      unfold conf_fair.j0
      all_goals (repeat' first
      | (with_reducible exact ih0 _ _ _ _ _ _ _ _)
      | (with_reducible exact ih1 _ _ _ _ _ _ _ _ _ _)
      | (with_reducible exact ih2 _ _ _)
      | (with_reducible exact LeO.refl _)
      | (with_reducible exact LeO.none _)
      | (with_reducible refine LeO.ite ?_ ?_)
      | (with_reducible refine LeO.bind ?_ (fun _ => ?_)))
    · intro y0 y1 y2 y3 y4 y5 y6 y7 y8 y9
      unfold conf_fair.l0
      all_goals (repeat' first
      | (with_reducible exact ih0 _ _ _ _ _ _ _ _)
      | (with_reducible exact ih1 _ _ _ _ _ _ _ _ _ _)
      | (with_reducible exact ih2 _ _ _)
      | (with_reducible exact LeO.refl _)
      | (with_reducible exact LeO.none _)
      | (with_reducible refine LeO.ite ?_ ?_)
      | (with_reducible refine LeO.bind ?_ (fun _ => ?_)))
    · intro y0 y1 y2
      unfold conf_fair.l1
      all_goals (repeat' first
      | (with_reducible exact ih0 _ _ _ _ _ _ _ _)
      | (with_reducible exact ih1 _ _ _ _ _ _ _ _ _ _)
      | (with_reducible exact ih2 _ _ _)
      | (with_reducible exact LeO.refl _)
      | (with_reducible exact LeO.none _)
      | (with_reducible refine LeO.ite ?_ ?_)
      | (with_reducible refine LeO.bind ?_ (fun _ => ?_)))
theorem conf_fair.mono : ∀ a0 a1 a2 a3 a4 a5 a6 k, LeO (conf_fair.f k a0 a1 a2 a3 a4 a5 a6) (conf_fair.f (k + 1) a0 a1 a2 a3 a4 a5 a6) := by
 intro a0 a1 a2 a3 a4 a5 a6 k
 obtain ⟨ih0, ih1, ih2⟩ := conf_fair.mono_l k
 unfold conf_fair.f
 repeat' first
  | (with_reducible exact ih0 _ _ _ _ _ _ _ _)
  | (with_reducible exact ih1 _ _ _ _ _ _ _ _ _ _)
  | (with_reducible exact ih2 _ _ _)
  | (with_reducible exact LeO.refl _)
  | (with_reducible exact LeO.none _)
  | (with_reducible refine LeO.ite ?_ ?_)
  | (with_reducible refine LeO.bind ?_ (fun _ => ?_))
set_option maxHeartbeats 8000000 in
theorem conf_form.mono_l : ∀ k, (∀ y0 y1 y2 y3, LeO (conf_form.j0 k y0 y1 y2 y3) (conf_form.j0 (k + 1) y0 y1 y2 y3)) ∧ (∀ y0 y1 y2 y3 y4 y5, LeO (conf_form.l0 k y0 y1 y2 y3 y4 y5) (conf_form.l0 (k + 1) y0 y1 y2 y3 y4 y5)) ∧ (∀ y0 y1 y2, LeO (conf_form.l1 k y0 y1 y2) (conf_form.l1 (k + 1) y0 y1 y2))
  | 0 => ⟨fun _ _ _ _ r h => by simp [conf_form.j0] at h, fun _ _ _ _ _ _ r h => by simp [conf_form.l0] at h, fun _ _ _ r h => by simp [conf_form.l1] at h⟩
  | k + 1 => by
    obtain ⟨ih0, ih1, ih2⟩ := conf_form.mono_l k
    refine ⟨?_, ?_, ?_⟩
    · intro y0 y1 y2 y3
      unfold conf_form.j0
      all_goals (repeat' first
      | (with_reducible exact ih0 _ _ _ _)
      | (with_reducible exact ih1 _ _ _ _ _ _)
      | (with_reducible exact ih2 _ _ _)
      | (with_reducible exact conf_spots.mono _ _ _ _)
      | (with_reducible exact conf_fair.mono _ _ _ _ _ _ _ _)
      | (with_reducible exact LeO.refl _)
      | (with_reducible exact LeO.none _)
      | (with_reducible refine LeO.ite ?_ ?_)
      | (with_reducible refine LeO.bind ?_ (fun _ => ?_)))
    · intro y0 y1 y2 y3 y4 y5
      unfold conf_form.l0
      all_goals (repeat' first
      | (with_reducible exact ih0 _ _ _ _)
      | (with_reducible exact ih1 _ _ _ _ _ _)
      | (with_reducible exact ih2 _ _ _)
      | (with_reducible exact conf_spots.mono _ _ _ _)
      | (with_reducible exact conf_fair.mono _ _ _ _ _ _ _ _)
      | (with_reducible exact LeO.refl _)
      | (with_reducible exact LeO.none _)
      | (with_reducible refine LeO.ite ?_ ?_)
      | (with_reducible refine LeO.bind ?_ (fun _ => ?_)))
    · intro y0 y1 y2
      unfold conf_form.l1
      all_goals (repeat' first
      | (with_reducible exact ih0 _ _ _ _)
      | (with_reducible exact ih1 _ _ _ _ _ _)
      | (with_reducible exact ih2 _ _ _)
      | (with_reducible exact conf_spots.mono _ _ _ _)
      | (with_reducible exact conf_fair.mono _ _ _ _ _ _ _ _)
      | (with_reducible exact LeO.refl _)
      | (with_reducible exact LeO.none _)
      | (with_reducible refine LeO.ite ?_ ?_)
      | (with_reducible refine LeO.bind ?_ (fun _ => ?_)))
theorem conf_form.mono : ∀ a0 a1 a2 k, LeO (conf_form.f k a0 a1 a2) (conf_form.f (k + 1) a0 a1 a2) := by
 intro a0 a1 a2 k
 obtain ⟨ih0, ih1, ih2⟩ := conf_form.mono_l k
 unfold conf_form.f
 repeat' first
  | (with_reducible exact ih0 _ _ _ _)
  | (with_reducible exact ih1 _ _ _ _ _ _)
  | (with_reducible exact ih2 _ _ _)
  | (with_reducible exact conf_spots.mono _ _ _ _)
  | (with_reducible exact conf_fair.mono _ _ _ _ _ _ _ _)
  | (with_reducible exact LeO.refl _)
  | (with_reducible exact LeO.none _)
  | (with_reducible refine LeO.ite ?_ ?_)
  | (with_reducible refine LeO.bind ?_ (fun _ => ?_))
set_option maxHeartbeats 8000000 in
theorem conf_placed.mono_l : ∀ k, (∀ y0 y1 y2 y3 y4 y5, LeO (conf_placed.l0 k y0 y1 y2 y3 y4 y5) (conf_placed.l0 (k + 1) y0 y1 y2 y3 y4 y5)) ∧ (∀ y0 y1 y2 y3 y4 y5 y6 y7 y8 y9 y10 y11 y12 y13 y14 y15 y16 y17, LeO (conf_placed.l1 k y0 y1 y2 y3 y4 y5 y6 y7 y8 y9 y10 y11 y12 y13 y14 y15 y16 y17) (conf_placed.l1 (k + 1) y0 y1 y2 y3 y4 y5 y6 y7 y8 y9 y10 y11 y12 y13 y14 y15 y16 y17)) ∧ (∀ y0 y1 y2 y3 y4 y5 y6 y7 y8 y9 y10 y11 y12 y13 y14 y15 y16 y17, LeO (conf_placed.l2 k y0 y1 y2 y3 y4 y5 y6 y7 y8 y9 y10 y11 y12 y13 y14 y15 y16 y17) (conf_placed.l2 (k + 1) y0 y1 y2 y3 y4 y5 y6 y7 y8 y9 y10 y11 y12 y13 y14 y15 y16 y17))
  | 0 => ⟨fun _ _ _ _ _ _ r h => by simp [conf_placed.l0] at h, fun _ _ _ _ _ _ _ _ _ _ _ _ _ _ _ _ _ _ r h => by simp [conf_placed.l1] at h, fun _ _ _ _ _ _ _ _ _ _ _ _ _ _ _ _ _ _ r h => by simp [conf_placed.l2] at h⟩
  | k + 1 => by
    obtain ⟨ih0, ih1, ih2⟩ := conf_placed.mono_l k
    refine ⟨?_, ?_, ?_⟩
    · intro y0 y1 y2 y3 y4 y5
      unfold conf_placed.l0
      all_goals (repeat' first
      | (with_reducible exact ih0 _ _ _ _ _ _)
      | (with_reducible exact ih1 _ _ _ _ _ _ _ _ _ _ _ _ _ _ _ _ _ _)
      | (with_reducible exact ih2 _ _ _ _ _ _ _ _ _ _ _ _ _ _ _ _ _ _)
      | (with_reducible exact conf_spots.mono _ _ _ _)
      | (with_reducible exact LeO.refl _)
      | (with_reducible exact LeO.none _)
      | (with_reducible refine LeO.ite ?_ ?_)
      | (with_reducible refine LeO.bind ?_ (fun _ => ?_)))
    · intro y0 y1 y2 y3 y4 y5 y6 y7 y8 y9 y10 y11 y12 y13 y14 y15 y16 y17
      unfold conf_placed.l1
      all_goals (repeat' first
      | (with_reducible exact ih0 _ _ _ _ _ _)
      | (with_reducible exact ih1 _ _ _ _ _ _ _ _ _ _ _ _ _ _ _ _ _ _)
      | (with_reducible exact ih2 _ _ _ _ _ _ _ _ _ _ _ _ _ _ _ _ _ _)
      | (with_reducible exact conf_spots.mono _ _ _ _)
      | (with_reducible exact LeO.refl _)
      | (with_reducible exact LeO.none _)
      | (with_reducible refine LeO.ite ?_ ?_)
      | (with_reducible refine LeO.bind ?_ (fun _ => ?_)))
    · intro y0 y1 y2 y3 y4 y5 y6 y7 y8 y9 y10 y11 y12 y13 y14 y15 y16 y17
      unfold conf_placed.l2
      all_goals (repeat' first
      | (with_reducible exact ih0 _ _ _ _ _ _)
      | (with_reducible exact ih1 _ _ _ _ _ _ _ _ _ _ _ _ _ _ _ _ _ _)
      | (with_reducible exact ih2 _ _ _ _ _ _ _ _ _ _ _ _ _ _ _ _ _ _)
      | (with_reducible exact conf_spots.mono _ _ _ _)
      | (with_reducible exact LeO.refl _)
      | (with_reducible exact LeO.none _)
      | (with_reducible refine LeO.ite ?_ ?_)
      | (with_reducible refine LeO.bind ?_ (fun _ => ?_)))
theorem conf_placed.mono : ∀ a0 a1 a2 k, LeO (conf_placed.f k a0 a1 a2) (conf_placed.f (k + 1) a0 a1 a2) := by
 intro a0 a1 a2 k
 obtain ⟨ih0, ih1, ih2⟩ := conf_placed.mono_l k
 unfold conf_placed.f
 repeat' first
  | (with_reducible exact ih0 _ _ _ _ _ _)
  | (with_reducible exact ih1 _ _ _ _ _ _ _ _ _ _ _ _ _ _ _ _ _ _)
  | (with_reducible exact ih2 _ _ _ _ _ _ _ _ _ _ _ _ _ _ _ _ _ _)
  | (with_reducible exact conf_spots.mono _ _ _ _)
  | (with_reducible exact LeO.refl _)
  | (with_reducible exact LeO.none _)
  | (with_reducible refine LeO.ite ?_ ?_)
  | (with_reducible refine LeO.bind ?_ (fun _ => ?_))
set_option maxHeartbeats 8000000 in
theorem conf_once.mono_l : ∀ k, (∀ y0 y1 y2 y3 y4 y5 y6 y7 y8 y9 y10 y11 y12 y13 y14 y15 y16 y17 y18 y19, LeO (conf_once.j0 k y0 y1 y2 y3 y4 y5 y6 y7 y8 y9 y10 y11 y12 y13 y14 y15 y16 y17 y18 y19) (conf_once.j0 (k + 1) y0 y1 y2 y3 y4 y5 y6 y7 y8 y9 y10 y11 y12 y13 y14 y15 y16 y17 y18 y19)) ∧ (∀ y0 y1 y2 y3 y4 y5 y6 y7 y8 y9 y10 y11 y12 y13 y14 y15 y16 y17 y18 y19 y20 y21, LeO (conf_once.l0 k y0 y1 y2 y3 y4 y5 y6 y7 y8 y9 y10 y11 y12 y13 y14 y15 y16 y17 y18 y19 y20 y21) (conf_once.l0 (k + 1) y0 y1 y2 y3 y4 y5 y6 y7 y8 y9 y10 y11 y12 y13 y14 y15 y16 y17 y18 y19 y20 y21)) ∧ (∀ y0 y1 y2 y3 y4 y5 y6 y7 y8 y9 y10 y11 y12 y13 y14 y15 y16 y17 y18 y19 y20 y21 y22 y23 y24 y25 y26 y27, LeO (conf_once.l1 k y0 y1 y2 y3 y4 y5 y6 y7 y8 y9 y10 y11 y12 y13 y14 y15 y16 y17 y18 y19 y20 y21 y22 y23 y24 y25 y26 y27) (conf_once.l1 (k + 1) y0 y1 y2 y3 y4 y5 y6 y7 y8 y9 y10 y11 y12 y13 y14 y15 y16 y17 y18 y19 y20 y21 y22 y23 y24 y25 y26 y27)) ∧ (∀ y0 y1 y2 y3 y4 y5 y6 y7 y8 y9 y10 y11 y12 y13 y14 y15 y16 y17 y18 y19 y20 y21, LeO (conf_once.l2 k y0 y1 y2 y3 y4 y5 y6 y7 y8 y9 y10 y11 y12 y13 y14 y15 y16 y17 y18 y19 y20 y21) (conf_once.l2 (k + 1) y0 y1 y2 y3 y4 y5 y6 y7 y8 y9 y10 y11 y12 y13 y14 y15 y16 y17 y18 y19 y20 y21)) ∧ (∀ y0 y1 y2 y3 y4 y5 y6 y7 y8 y9 y10 y11 y12 y13 y14 y15 y16 y17 y18 y19 y20 y21 y22 y23 y24 y25 y26 y27, LeO (conf_once.l3 k y0 y1 y2 y3 y4 y5 y6 y7 y8 y9 y10 y11 y12 y13 y14 y15 y16 y17 y18 y19 y20 y21 y22 y23 y24 y25 y26 y27) (conf_once.l3 (k + 1) y0 y1 y2 y3 y4 y5 y6 y7 y8 y9 y10 y11 y12 y13 y14 y15 y16 y17 y18 y19 y20 y21 y22 y23 y24 y25 y26 y27))
  | 0 => ⟨fun _ _ _ _ _ _ _ _ _ _ _ _ _ _ _ _ _ _ _ _ r h => by simp [conf_once.j0] at h, fun _ _ _ _ _ _ _ _ _ _ _ _ _ _ _ _ _ _ _ _ _ _ r h => by simp [conf_once.l0] at h, fun _ _ _ _ _ _ _ _ _ _ _ _ _ _ _ _ _ _ _ _ _ _ _ _ _ _ _ _ r h => by simp [conf_once.l1] at h, fun _ _ _ _ _ _ _ _ _ _ _ _ _ _ _ _ _ _ _ _ _ _ r h => by simp [conf_once.l2] at h, fun _ _ _ _ _ _ _ _ _ _ _ _ _ _ _ _ _ _ _ _ _ _ _ _ _ _ _ _ r h => by simp [conf_once.l3] at h⟩
  | k + 1 => by
    obtain ⟨ih0, ih1, ih2, ih3, ih4⟩ := conf_once.mono_l k
    refine ⟨?_, ?_, ?_, ?_, ?_⟩
    · intro y0 y1 y2 y3 y4 y5 y6 y7 y8 y9 y10 y11 y12 y13 y14 y15 y16 y17 y18 y19
      unfold conf_once.j0
      all_goals (repeat' first
      | (with_reducible exact ih0 _ _ _ _ _ _ _ _ _ _ _ _ _ _ _ _ _ _ _ _)
      | (with_reducible exact ih1 _ _ _ _ _ _ _ _ _ _ _ _ _ _ _ _ _ _ _ _ _ _)
      | (with_reducible exact ih2 _ _ _ _ _ _ _ _ _ _ _ _ _ _ _ _ _ _ _ _ _ _ _ _ _ _ _ _)
      | (with_reducible exact ih3 _ _ _ _ _ _ _ _ _ _ _ _ _ _ _ _ _ _ _ _ _ _)
      | (with_reducible exact ih4 _ _ _ _ _ _ _ _ _ _ _ _ _ _ _ _ _ _ _ _ _ _ _ _ _ _ _ _)
      | (with_reducible exact LeO.refl _)
      | (with_reducible exact LeO.none _)
      | (with_reducible refine LeO.ite ?_ ?_)
      | (with_reducible refine LeO.bind ?_ (fun _ => ?_)))
    · intro y0 y1 y2 y3 y4 y5 y6 y7 y8 y9 y10 y11 y12 y13 y14 y15 y16 y17 y18 y19 y20 y21
      unfold conf_once.l0
      all_goals (repeat' first
      | (with_reducible exact ih0 _ _ _ _ _ _ _ _ _ _ _ _ _ _ _ _ _ _ _ _)
      | (with_reducible exact ih1 _ _ _ _ _ _ _ _ _ _ _ _ _ _ _ _ _ _ _ _ _ _)
      | (with_reducible exact ih2 _ _ _ _ _ _ _ _ _ _ _ _ _ _ _ _ _ _ _ _ _ _ _ _ _ _ _ _)
      | (with_reducible exact ih3 _ _ _ _ _ _ _ _ _ _ _ _ _ _ _ _ _ _ _ _ _ _)
      | (with_reducible exact ih4 _ _ _ _ _ _ _ _ _ _ _ _ _ _ _ _ _ _ _ _ _ _ _ _ _ _ _ _)
      | (with_reducible exact LeO.refl _)
      | (with_reducible exact LeO.none _)
      | (with_reducible refine LeO.ite ?_ ?_)
      | (with_reducible refine LeO.bind ?_ (fun _ => ?_)))
    · intro y0 y1 y2 y3 y4 y5 y6 y7 y8 y9 y10 y11 y12 y13 y14 y15 y16 y17 y18 y19 y20 y21 y22 y23 y24 y25 y26 y27
      unfold conf_once.l1
      all_goals (repeat' first
      | (with_reducible exact ih0 _ _ _ _ _ _ _ _ _ _ _ _ _ _ _ _ _ _ _ _)
      | (with_reducible exact ih1 _ _ _ _ _ _ _ _ _ _ _ _ _ _ _ _ _ _ _ _ _ _)
      | (with_reducible exact ih2 _ _ _ _ _ _ _ _ _ _ _ _ _ _ _ _ _ _ _ _ _ _ _ _ _ _ _ _)
      | (with_reducible exact ih3 _ _ _ _ _ _ _ _ _ _ _ _ _ _ _ _ _ _ _ _ _ _)
      | (with_reducible exact ih4 _ _ _ _ _ _ _ _ _ _ _ _ _ _ _ _ _ _ _ _ _ _ _ _ _ _ _ _)
      | (with_reducible exact LeO.refl _)
      | (with_reducible exact LeO.none _)
      | (with_reducible refine LeO.ite ?_ ?_)
      | (with_reducible refine LeO.bind ?_ (fun _ => ?_)))
    · intro y0 y1 y2 y3 y4 y5 y6 y7 y8 y9 y10 y11 y12 y13 y14 y15 y16 y17 y18 y19 y20 y21
      unfold conf_once.l2
      all_goals (repeat' first
      | (with_reducible exact ih0 _ _ _ _ _ _ _ _ _ _ _ _ _ _ _ _ _ _ _ _)
      | (with_reducible exact ih1 _ _ _ _ _ _ _ _ _ _ _ _ _ _ _ _ _ _ _ _ _ _)
      | (with_reducible exact ih2 _ _ _ _ _ _ _ _ _ _ _ _ _ _ _ _ _ _ _ _ _ _ _ _ _ _ _ _)
      | (with_reducible exact ih3 _ _ _ _ _ _ _ _ _ _ _ _ _ _ _ _ _ _ _ _ _ _)
      | (with_reducible exact ih4 _ _ _ _ _ _ _ _ _ _ _ _ _ _ _ _ _ _ _ _ _ _ _ _ _ _ _ _)
      | (with_reducible exact LeO.refl _)
      | (with_reducible exact LeO.none _)
      | (with_reducible refine LeO.ite ?_ ?_)
      | (with_reducible refine LeO.bind ?_ (fun _ => ?_)))
    · intro y0 y1 y2 y3 y4 y5 y6 y7 y8 y9 y10 y11 y12 y13 y14 y15 y16 y17 y18 y19 y20 y21 y22 y23 y24 y25 y26 y27
      unfold conf_once.l3
      all_goals (repeat' first
      | (with_reducible exact ih0 _ _ _ _ _ _ _ _ _ _ _ _ _ _ _ _ _ _ _ _)
      | (with_reducible exact ih1 _ _ _ _ _ _ _ _ _ _ _ _ _ _ _ _ _ _ _ _ _ _)
      | (with_reducible exact ih2 _ _ _ _ _ _ _ _ _ _ _ _ _ _ _ _ _ _ _ _ _ _ _ _ _ _ _ _)
      | (with_reducible exact ih3 _ _ _ _ _ _ _ _ _ _ _ _ _ _ _ _ _ _ _ _ _ _)
      | (with_reducible exact ih4 _ _ _ _ _ _ _ _ _ _ _ _ _ _ _ _ _ _ _ _ _ _ _ _ _ _ _ _)
      | (with_reducible exact LeO.refl _)
      | (with_reducible exact LeO.none _)
      | (with_reducible refine LeO.ite ?_ ?_)
      | (with_reducible refine LeO.bind ?_ (fun _ => ?_)))
theorem conf_once.mono : ∀ a0 a1 a2 a3 a4 a5 a6 a7 a8 a9 a10 a11 a12 a13 a14 a15 a16 a17 a18 k, LeO (conf_once.f k a0 a1 a2 a3 a4 a5 a6 a7 a8 a9 a10 a11 a12 a13 a14 a15 a16 a17 a18) (conf_once.f (k + 1) a0 a1 a2 a3 a4 a5 a6 a7 a8 a9 a10 a11 a12 a13 a14 a15 a16 a17 a18) := by
 intro a0 a1 a2 a3 a4 a5 a6 a7 a8 a9 a10 a11 a12 a13 a14 a15 a16 a17 a18 k
 obtain ⟨ih0, ih1, ih2, ih3, ih4⟩ := conf_once.mono_l k
 unfold conf_once.f
 repeat' first
  | (with_reducible exact ih0 _ _ _ _ _ _ _ _ _ _ _ _ _ _ _ _ _ _ _ _)
  | (with_reducible exact ih1 _ _ _ _ _ _ _ _ _ _ _ _ _ _ _ _ _ _ _ _ _ _)
  | (with_reducible exact ih2 _ _ _ _ _ _ _ _ _ _ _ _ _ _ _ _ _ _ _ _ _ _ _ _ _ _ _ _)
  | (with_reducible exact ih3 _ _ _ _ _ _ _ _ _ _ _ _ _ _ _ _ _ _ _ _ _ _)
  | (with_reducible exact ih4 _ _ _ _ _ _ _ _ _ _ _ _ _ _ _ _ _ _ _ _ _ _ _ _ _ _ _ _)
  | (with_reducible exact LeO.refl _)
  | (with_reducible exact LeO.none _)
  | (with_reducible refine LeO.ite ?_ ?_)
  | (with_reducible refine LeO.bind ?_ (fun _ => ?_))
set_option maxHeartbeats 8000000 in
theorem conf_unlike.mono_l : ∀ k, (∀ y0 y1 y2 y3, LeO (conf_unlike.l0 k y0 y1 y2 y3) (conf_unlike.l0 (k + 1) y0 y1 y2 y3)) ∧ (∀ y0 y1 y2 y3 y4 y5 y6 y7 y8 y9 y10 y11 y12 y13 y14 y15 y16, LeO (conf_unlike.l1 k y0 y1 y2 y3 y4 y5 y6 y7 y8 y9 y10 y11 y12 y13 y14 y15 y16) (conf_unlike.l1 (k + 1) y0 y1 y2 y3 y4 y5 y6 y7 y8 y9 y10 y11 y12 y13 y14 y15 y16))
  | 0 => ⟨fun _ _ _ _ r h => by simp [conf_unlike.l0] at h, fun _ _ _ _ _ _ _ _ _ _ _ _ _ _ _ _ _ r h => by simp [conf_unlike.l1] at h⟩
  | k + 1 => by
    obtain ⟨ih0, ih1⟩ := conf_unlike.mono_l k
    refine ⟨?_, ?_⟩
    · intro y0 y1 y2 y3
      unfold conf_unlike.l0
      all_goals (repeat' first
      | (with_reducible exact ih0 _ _ _ _)
      | (with_reducible exact ih1 _ _ _ _ _ _ _ _ _ _ _ _ _ _ _ _ _)
      | (with_reducible exact conf_once.mono _ _ _ _ _ _ _ _ _ _ _ _ _ _ _ _ _ _ _ _)
      | (with_reducible exact conf_spots.mono _ _ _ _)
      | (with_reducible exact LeO.refl _)
      | (with_reducible exact LeO.none _)
      | (with_reducible refine LeO.ite ?_ ?_)
      | (with_reducible refine LeO.bind ?_ (fun _ => ?_)))
    · intro y0 y1 y2 y3 y4 y5 y6 y7 y8 y9 y10 y11 y12 y13 y14 y15 y16
      unfold conf_unlike.l1
      all_goals (repeat' first
      | (with_reducible exact ih0 _ _ _ _)
      | (with_reducible exact ih1 _ _ _ _ _ _ _ _ _ _ _ _ _ _ _ _ _)
      | (with_reducible exact conf_once.mono _ _ _ _ _ _ _ _ _ _ _ _ _ _ _ _ _ _ _ _)
      | (with_reducible exact conf_spots.mono _ _ _ _)
      | (with_reducible exact LeO.refl _)
      | (with_reducible exact LeO.none _)
      | (with_reducible refine LeO.ite ?_ ?_)
      | (with_reducible refine LeO.bind ?_ (fun _ => ?_)))
theorem conf_unlike.mono : ∀ a0 a1 a2 k, LeO (conf_unlike.f k a0 a1 a2) (conf_unlike.f (k + 1) a0 a1 a2) := by
 intro a0 a1 a2 k
 obtain ⟨ih0, ih1⟩ := conf_unlike.mono_l k
 unfold conf_unlike.f
 repeat' first
  | (with_reducible exact ih0 _ _ _ _)
  | (with_reducible exact ih1 _ _ _ _ _ _ _ _ _ _ _ _ _ _ _ _ _)
  | (with_reducible exact conf_once.mono _ _ _ _ _ _ _ _ _ _ _ _ _ _ _ _ _ _ _ _)
  | (with_reducible exact conf_spots.mono _ _ _ _)
  | (with_reducible exact LeO.refl _)
  | (with_reducible exact LeO.none _)
  | (with_reducible refine LeO.ite ?_ ?_)
  | (with_reducible refine LeO.bind ?_ (fun _ => ?_))
theorem conf_Check.mono : ∀ a0 a1 a2 k, LeO (conf_Check.f k a0 a1 a2) (conf_Check.f (k + 1) a0 a1 a2) := by
 intro a0 a1 a2 k
 unfold conf_Check.f
 repeat' first
  | (with_reducible exact conf_form.mono _ _ _ _)
  | (with_reducible exact conf_placed.mono _ _ _ _)
  | (with_reducible exact conf_unlike.mono _ _ _ _)
  | (with_reducible exact LeO.refl _)
  | (with_reducible exact LeO.none _)
  | (with_reducible refine LeO.ite ?_ ?_)
  | (with_reducible refine LeO.bind ?_ (fun _ => ?_))
theorem conf_right.mono : ∀ a0 a1 a2 k, LeO (conf_right.f k a0 a1 a2) (conf_right.f (k + 1) a0 a1 a2) := by
 intro a0 a1 a2 k
 unfold conf_right.f
 repeat' first
  | (with_reducible exact conf_Check.mono _ _ _ _)
  | (with_reducible exact conf_spots.mono _ _ _ _)
  | (with_reducible exact LeO.refl _)
  | (with_reducible exact LeO.none _)
  | (with_reducible refine LeO.ite ?_ ?_)
  | (with_reducible refine LeO.bind ?_ (fun _ => ?_))
set_option maxHeartbeats 8000000 in
theorem conf_Keeper.mono_l : ∀ k, (∀ y0 y1 y2 y3, LeO (conf_Keeper.l0 k y0 y1 y2 y3) (conf_Keeper.l0 (k + 1) y0 y1 y2 y3)) ∧ (∀ y0 y1 y2 y3 y4 y5 y6, LeO (conf_Keeper.l1 k y0 y1 y2 y3 y4 y5 y6) (conf_Keeper.l1 (k + 1) y0 y1 y2 y3 y4 y5 y6))
  | 0 => ⟨fun _ _ _ _ r h => by simp [conf_Keeper.l0] at h, fun _ _ _ _ _ _ _ r h => by simp [conf_Keeper.l1] at h⟩
  | k + 1 => by
    obtain ⟨ih0, ih1⟩ := conf_Keeper.mono_l k
    refine ⟨?_, ?_⟩
    · intro y0 y1 y2 y3
      unfold conf_Keeper.l0
      all_goals (repeat' first
      | (with_reducible exact ih0 _ _ _ _)
      | (with_reducible exact ih1 _ _ _ _ _ _ _)
      | (with_reducible exact conf_right.mono _ _ _ _)
      | (with_reducible exact LeO.refl _)
      | (with_reducible exact LeO.none _)
      | (with_reducible refine LeO.ite ?_ ?_)
      | (with_reducible refine LeO.bind ?_ (fun _ => ?_)))
    · intro y0 y1 y2 y3 y4 y5 y6
      unfold conf_Keeper.l1
      all_goals (repeat' first
      | (with_reducible exact ih0 _ _ _ _)
      | (with_reducible exact ih1 _ _ _ _ _ _ _)
      | (with_reducible exact conf_right.mono _ _ _ _)
      | (with_reducible exact LeO.refl _)
      | (with_reducible exact LeO.none _)
      | (with_reducible refine LeO.ite ?_ ?_)
      | (with_reducible refine LeO.bind ?_ (fun _ => ?_)))
theorem conf_Keeper.mono : ∀ a0 a1 a2 a3 k, LeO (conf_Keeper.f k a0 a1 a2 a3) (conf_Keeper.f (k + 1) a0 a1 a2 a3) := by
 intro a0 a1 a2 a3 k
 obtain ⟨ih0, ih1⟩ := conf_Keeper.mono_l k
 unfold conf_Keeper.f
 repeat' first
  | (with_reducible exact ih0 _ _ _ _)
  | (with_reducible exact ih1 _ _ _ _ _ _ _)
  | (with_reducible exact conf_right.mono _ _ _ _)
  | (with_reducible exact LeO.refl _)
  | (with_reducible exact LeO.none _)
  | (with_reducible refine LeO.ite ?_ ?_)
  | (with_reducible refine LeO.bind ?_ (fun _ => ?_))
theorem stats_busy.mono : ∀ a0 a1 a2 a3 a4 a5 k, LeO (stats_busy.f k a0 a1 a2 a3 a4 a5) (stats_busy.f (k + 1) a0 a1 a2 a3 a4 a5) := by
 intro a0 a1 a2 a3 a4 a5 k
 unfold stats_busy.f
 repeat' first
  | (with_reducible exact conf_Keeper.mono _ _ _ _ _)
  | (with_reducible exact table_Get.mono _ _ _)
  | (with_reducible exact LeO.refl _)
  | (with_reducible exact LeO.none _)
  | (with_reducible refine LeO.ite ?_ ?_)
  | (with_reducible refine LeO.bind ?_ (fun _ => ?_))
set_option maxHeartbeats 8000000 in
theorem stats_subnet.mono_l : ∀ k, (∀ y0 y1 y2 y3 y4 y5 y6 y7 y8 y9 y10 y11 y12 y13, LeO (stats_subnet.l0 k y0 y1 y2 y3 y4 y5 y6 y7 y8 y9 y10 y11 y12 y13) (stats_subnet.l0 (k + 1) y0 y1 y2 y3 y4 y5 y6 y7 y8 y9 y10 y11 y12 y13)) ∧ (∀ y0 y1 y2 y3 y4 y5 y6 y7 y8 y9 y10 y11 y12 y13 y14 y15, LeO (stats_subnet.l1 k y0 y1 y2 y3 y4 y5 y6 y7 y8 y9 y10 y11 y12 y13 y14 y15) (stats_subnet.l1 (k + 1) y0 y1 y2 y3 y4 y5 y6 y7 y8 y9 y10 y11 y12 y13 y14 y15)) ∧ (∀ y0 y1 y2 y3 y4 y5 y6 y7 y8 y9 y10 y11 y12 y13 y14 y15 y16 y17, LeO (stats_subnet.l2 k y0 y1 y2 y3 y4 y5 y6 y7 y8 y9 y10 y11 y12 y13 y14 y15 y16 y17) (stats_subnet.l2 (k + 1) y0 y1 y2 y3 y4 y5 y6 y7 y8 y9 y10 y11 y12 y13 y14 y15 y16 y17))
  | 0 => ⟨fun _ _ _ _ _ _ _ _ _ _ _ _ _ _ r h => by simp [stats_subnet.l0] at h, fun _ _ _ _ _ _ _ _ _ _ _ _ _ _ _ _ r h => by simp [stats_subnet.l1] at h, fun _ _ _ _ _ _ _ _ _ _ _ _ _ _ _ _ _ _ r h => by simp [stats_subnet.l2] at h⟩
  | k + 1 => by
    obtain ⟨ih0, ih1, ih2⟩ := stats_subnet.mono_l k
    refine ⟨?_, ?_, ?_⟩
    · intro y0 y1 y2 y3 y4 y5 y6 y7 y8 y9 y10 y11 y12 y13
      unfold stats_subnet.l0
      all_goals (repeat' first
      | (with_reducible exact ih0 _ _ _ _ _ _ _ _ _ _ _ _ _ _)
      | (with_reducible exact ih1 _ _ _ _ _ _ _ _ _ _ _ _ _ _ _ _)
      | (with_reducible exact ih2 _ _ _ _ _ _ _ _ _ _ _ _ _ _ _ _ _ _)
      | (with_reducible exact stats_add.mono _ _ _ _ _ _ _ _ _)
      | (with_reducible exact stats_some.mono _ _ _ _ _)
      | (with_reducible exact stats_in.mono _ _ _ _ _ _ _ _ _)
      | (with_reducible exact stats_busy.mono _ _ _ _ _ _ _)
      | (with_reducible exact LeO.refl _)
      | (with_reducible exact LeO.none _)
      | (with_reducible refine LeO.ite ?_ ?_)
      | (with_reducible refine LeO.bind ?_ (fun _ => ?_)))
    · intro y0 y1 y2 y3 y4 y5 y6 y7 y8 y9 y10 y11 y12 y13 y14 y15
      unfold stats_subnet.l1
      all_goals (repeat' first
      | (with_reducible exact ih0 _ _ _ _ _ _ _ _ _ _ _ _ _ _)
      | (with_reducible exact ih1 _ _ _ _ _ _ _ _ _ _ _ _ _ _ _ _)
      | (with_reducible exact ih2 _ _ _ _ _ _ _ _ _ _ _ _ _ _ _ _ _ _)
      | (with_reducible exact stats_add.mono _ _ _ _ _ _ _ _ _)
      | (with_reducible exact stats_some.mono _ _ _ _ _)
      | (with_reducible exact stats_in.mono _ _ _ _ _ _ _ _ _)
      | (with_reducible exact stats_busy.mono _ _ _ _ _ _ _)
      | (with_reducible exact LeO.refl _)
      | (with_reducible exact LeO.none _)
      | (with_reducible refine LeO.ite ?_ ?_)
      | (with_reducible refine LeO.bind ?_ (fun _ => ?_)))
    · intro y0 y1 y2 y3 y4 y5 y6 y7 y8 y9 y10 y11 y12 y13 y14 y15 y16 y17
      unfold stats_subnet.l2
      all_goals (repeat' first
      | (with_reducible exact ih0 _ _ _ _ _ _ _ _ _ _ _ _ _ _)
      | (with_reducible exact ih1 _ _ _ _ _ _ _ _ _ _ _ _ _ _ _ _)
      | (with_reducible exact ih2 _ _ _ _ _ _ _ _ _ _ _ _ _ _ _ _ _ _)
      | (with_reducible exact stats_add.mono _ _ _ _ _ _ _ _ _)
      | (with_reducible exact stats_some.mono _ _ _ _ _)
      | (with_reducible exact stats_in.mono _ _ _ _ _ _ _ _ _)
      | (with_reducible exact stats_busy.mono _ _ _ _ _ _ _)
      | (with_reducible exact LeO.refl _)
      | (with_reducible exact LeO.none _)
      | (with_reducible refine LeO.ite ?_ ?_)
      | (with_reducible refine LeO.bind ?_ (fun _ => ?_)))
theorem stats_subnet.mono : ∀ a0 a1 a2 a3 a4 a5 a6 a7 a8 a9 a10 a11 k, LeO (stats_subnet.f k a0 a1 a2 a3 a4 a5 a6 a7 a8 a9 a10 a11) (stats_subnet.f (k + 1) a0 a1 a2 a3 a4 a5 a6 a7 a8 a9 a10 a11) := by
 intro a0 a1 a2 a3 a4 a5 a6 a7 a8 a9 a10 a11 k
 obtain ⟨ih0, ih1, ih2⟩ := stats_subnet.mono_l k
 unfold stats_subnet.f
 repeat' first
  | (with_reducible exact ih0 _ _ _ _ _ _ _ _ _ _ _ _ _ _)
  | (with_reducible exact ih1 _ _ _ _ _ _ _ _ _ _ _ _ _ _ _ _)
  | (with_reducible exact ih2 _ _ _ _ _ _ _ _ _ _ _ _ _ _ _ _ _ _)
  | (with_reducible exact stats_add.mono _ _ _ _ _ _ _ _ _)
  | (with_reducible exact stats_some.mono _ _ _ _ _)
  | (with_reducible exact stats_in.mono _ _ _ _ _ _ _ _ _)
  | (with_reducible exact stats_busy.mono _ _ _ _ _ _ _)
  | (with_reducible exact LeO.refl _)
  | (with_reducible exact LeO.none _)
  | (with_reducible refine LeO.ite ?_ ?_)
  | (with_reducible refine LeO.bind ?_ (fun _ => ?_))
set_option maxHeartbeats 8000000 in
theorem stats_Count.mono_l : ∀ k, (∀ y0 y1 y2 y3 y4 y5 y6, LeO (stats_Count.l0 k y0 y1 y2 y3 y4 y5 y6) (stats_Count.l0 (k + 1) y0 y1 y2 y3 y4 y5 y6)) ∧ (∀ y0 y1 y2 y3 y4 y5 y6 y7, LeO (stats_Count.l1 k y0 y1 y2 y3 y4 y5 y6 y7) (stats_Count.l1 (k + 1) y0 y1 y2 y3 y4 y5 y6 y7))
  | 0 => ⟨fun _ _ _ _ _ _ _ r h => by simp [stats_Count.l0] at h, fun _ _ _ _ _ _ _ _ r h => by simp [stats_Count.l1] at h⟩
  | k + 1 => by
    obtain ⟨ih0, ih1⟩ := stats_Count.mono_l k
    refine ⟨?_, ?_⟩
    · intro y0 y1 y2 y3 y4 y5 y6
      unfold stats_Count.l0
      all_goals (repeat' first
      | (with_reducible exact ih0 _ _ _ _ _ _ _)
      | (with_reducible exact ih1 _ _ _ _ _ _ _ _)
      | (with_reducible exact stats_subnet.mono _ _ _ _ _ _ _ _ _ _ _ _ _)
      | (with_reducible exact conf_Check.mono _ _ _ _)
      | (with_reducible exact table_Right.mono _ _)
      | (with_reducible exact LeO.refl _)
      | (with_reducible exact LeO.none _)
      | (with_reducible refine LeO.ite ?_ ?_)
      | (with_reducible refine LeO.bind ?_ (fun _ => ?_)))
    · intro y0 y1 y2 y3 y4 y5 y6 y7
      unfold stats_Count.l1
      all_goals (repeat' first
      | (with_reducible exact ih0 _ _ _ _ _ _ _)
      | (with_reducible exact ih1 _ _ _ _ _ _ _ _)
      | (with_reducible exact stats_subnet.mono _ _ _ _ _ _ _ _ _ _ _ _ _)
      | (with_reducible exact conf_Check.mono _ _ _ _)
      | (with_reducible exact table_Right.mono _ _)
      | (with_reducible exact LeO.refl _)
      | (with_reducible exact LeO.none _)
      | (with_reducible refine LeO.ite ?_ ?_)
      | (with_reducible refine LeO.bind ?_ (fun _ => ?_)))
theorem stats_Count.mono : ∀ a0 a1 a2 a3 a4 k, LeO (stats_Count.f k a0 a1 a2 a3 a4) (stats_Count.f (k + 1) a0 a1 a2 a3 a4) := by
 intro a0 a1 a2 a3 a4 k
 obtain ⟨ih0, ih1⟩ := stats_Count.mono_l k
 unfold stats_Count.f
 repeat' first
  | (with_reducible exact ih0 _ _ _ _ _ _ _)
  | (with_reducible exact ih1 _ _ _ _ _ _ _ _)
  | (with_reducible exact stats_subnet.mono _ _ _ _ _ _ _ _ _ _ _ _ _)
  | (with_reducible exact conf_Check.mono _ _ _ _)
  | (with_reducible exact table_Right.mono _ _)
  | (with_reducible exact LeO.refl _)
  | (with_reducible exact LeO.none _)
  | (with_reducible refine LeO.ite ?_ ?_)
  | (with_reducible refine LeO.bind ?_ (fun _ => ?_))
set_option maxHeartbeats 8000000 in
theorem stats_add_m1.mono_l : ∀ k, (∀ y0 y1 y2, LeO (stats_add_m1.l0 k y0 y1 y2) (stats_add_m1.l0 (k + 1) y0 y1 y2))
  | 0 => fun _ _ _ r h => by simp [stats_add_m1.l0] at h
  | k + 1 => by
    have ih0 := stats_add_m1.mono_l k
    intro y0 y1 y2
    unfold stats_add_m1.l0
    all_goals (repeat' first
      | (with_reducible exact ih0 _ _ _)
      | (with_reducible exact LeO.refl _)
      | (with_reducible exact LeO.none _)
      | (with_reducible refine LeO.ite ?_ ?_)
      | (with_reducible refine LeO.bind ?_ (fun _ => ?_)))
theorem stats_add_m1.mono : ∀ a0 a1 a2 a3 a4 a5 a6 a7 k, LeO (stats_add_m1.f k a0 a1 a2 a3 a4 a5 a6 a7) (stats_add_m1.f (k + 1) a0 a1 a2 a3 a4 a5 a6 a7) := by
 intro a0 a1 a2 a3 a4 a5 a6 a7 k
 have ih0 := stats_add_m1.mono_l k
 unfold stats_add_m1.f
 repeat' first
  | (with_reducible exact ih0 _ _ _)
  | (with_reducible exact LeO.refl _)
  | (with_reducible exact LeO.none _)
  | (with_reducible refine LeO.ite ?_ ?_)
  | (with_reducible refine LeO.bind ?_ (fun _ => ?_))
set_option maxHeartbeats 8000000 in
theorem stats_add_m2.mono_l : ∀ k, (∀ y0 y1 y2, LeO (stats_add_m2.l0 k y0 y1 y2) (stats_add_m2.l0 (k + 1) y0 y1 y2))
  | 0 => fun _ _ _ r h => by simp [stats_add_m2.l0] at h
  | k + 1 => by
    have ih0 := stats_add_m2.mono_l k
    intro y0 y1 y2
    unfold stats_add_m2.l0
    all_goals (repeat' first
      | (with_reducible exact ih0 _ _ _)
      | (with_reducible exact LeO.refl _)
      | (with_reducible exact LeO.none _)
      | (with_reducible refine LeO.ite ?_ ?_)
      | (with_reducible refine LeO.bind ?_ (fun _ => ?_)))
theorem stats_add_m2.mono : ∀ a0 a1 a2 a3 a4 a5 a6 a7 k, LeO (stats_add_m2.f k a0 a1 a2 a3 a4 a5 a6 a7) (stats_add_m2.f (k + 1) a0 a1 a2 a3 a4 a5 a6 a7) := by
 intro a0 a1 a2 a3 a4 a5 a6 a7 k
 have ih0 := stats_add_m2.mono_l k
 unfold stats_add_m2.f
 repeat' first
  | (with_reducible exact ih0 _ _ _)
  | (with_reducible exact LeO.refl _)
  | (with_reducible exact LeO.none _)
  | (with_reducible refine LeO.ite ?_ ?_)
  | (with_reducible refine LeO.bind ?_ (fun _ => ?_))
set_option maxHeartbeats 8000000 in
theorem stats_add_m3.mono_l : ∀ k, (∀ y0 y1 y2, LeO (stats_add_m3.l0 k y0 y1 y2) (stats_add_m3.l0 (k + 1) y0 y1 y2))
  | 0 => fun _ _ _ r h => by simp [stats_add_m3.l0] at h
  | k + 1 => by
    have ih0 := stats_add_m3.mono_l k
    intro y0 y1 y2
    unfold stats_add_m3.l0
    all_goals (repeat' first
      | (with_reducible exact ih0 _ _ _)
      | (with_reducible exact LeO.refl _)
      | (with_reducible exact LeO.none _)
      | (with_reducible refine LeO.ite ?_ ?_)
      | (with_reducible refine LeO.bind ?_ (fun _ => ?_)))
theorem stats_add_m3.mono : ∀ a0 a1 a2 a3 a4 a5 a6 a7 k, LeO (stats_add_m3.f k a0 a1 a2 a3 a4 a5 a6 a7) (stats_add_m3.f (k + 1) a0 a1 a2 a3 a4 a5 a6 a7) := by
 intro a0 a1 a2 a3 a4 a5 a6 a7 k
 have ih0 := stats_add_m3.mono_l k
 unfold stats_add_m3.f
 repeat' first
  | (with_reducible exact ih0 _ _ _)
  | (with_reducible exact LeO.refl _)
  | (with_reducible exact LeO.none _)
  | (with_reducible refine LeO.ite ?_ ?_)
  | (with_reducible refine LeO.bind ?_ (fun _ => ?_))
set_option maxHeartbeats 8000000 in
theorem stats_add_m4.mono_l : ∀ k, (∀ y0 y1 y2, LeO (stats_add_m4.l0 k y0 y1 y2) (stats_add_m4.l0 (k + 1) y0 y1 y2))
  | 0 => fun _ _ _ r h => by simp [stats_add_m4.l0] at h
  | k + 1 => by
    have ih0 := stats_add_m4.mono_l k
    intro y0 y1 y2
    unfold stats_add_m4.l0
    all_goals (repeat' first
      | (with_reducible exact ih0 _ _ _)
      | (with_reducible exact LeO.refl _)
      | (with_reducible exact LeO.none _)
      | (with_reducible refine LeO.ite ?_ ?_)
      | (with_reducible refine LeO.bind ?_ (fun _ => ?_)))
theorem stats_add_m4.mono : ∀ a0 a1 a2 a3 a4 a5 a6 a7 k, LeO (stats_add_m4.f k a0 a1 a2 a3 a4 a5 a6 a7) (stats_add_m4.f (k + 1) a0 a1 a2 a3 a4 a5 a6 a7) := by
 intro a0 a1 a2 a3 a4 a5 a6 a7 k
 have ih0 := stats_add_m4.mono_l k
 unfold stats_add_m4.f
 repeat' first
  | (with_reducible exact ih0 _ _ _)
  | (with_reducible exact LeO.refl _)
  | (with_reducible exact LeO.none _)
  | (with_reducible refine LeO.ite ?_ ?_)
  | (with_reducible refine LeO.bind ?_ (fun _ => ?_))
set_option maxHeartbeats 8000000 in
theorem stats_Sum.mono_l : ∀ k, (∀ y0 y1 y2 y3 y4 y5 y6 y7 y8, LeO (stats_Sum.j0 k y0 y1 y2 y3 y4 y5 y6 y7 y8) (stats_Sum.j0 (k + 1) y0 y1 y2 y3 y4 y5 y6 y7 y8)) ∧ (∀ y0 y1 y2 y3 y4 y5 y6 y7 y8, LeO (stats_Sum.l0 k y0 y1 y2 y3 y4 y5 y6 y7 y8) (stats_Sum.l0 (k + 1) y0 y1 y2 y3 y4 y5 y6 y7 y8))
  | 0 => ⟨fun _ _ _ _ _ _ _ _ _ r h => by simp [stats_Sum.j0] at h, fun _ _ _ _ _ _ _ _ _ r h => by simp [stats_Sum.l0] at h⟩
  | k + 1 => by
    obtain ⟨ih0, ih1⟩ := stats_Sum.mono_l k
    refine ⟨?_, ?_⟩
    · intro y0 y1 y2 y3 y4 y5 y6 y7 y8
      unfold stats_Sum.j0
      all_goals (repeat' first
      | (with_reducible exact ih0 _ _ _ _ _ _ _ _ _)
      | (with_reducible exact ih1 _ _ _ _ _ _ _ _ _)
      | (with_reducible exact stats_add.mono _ _ _ _ _ _ _ _ _)
      | (with_reducible exact stats_add_m1.mono _ _ _ _ _ _ _ _ _)
      | (with_reducible exact stats_add_m2.mono _ _ _ _ _ _ _ _ _)
      | (with_reducible exact stats_add_m3.mono _ _ _ _ _ _ _ _ _)
      | (with_reducible exact stats_add_m4.mono _ _ _ _ _ _ _ _ _)
      | (with_reducible exact LeO.refl _)
      | (with_reducible exact LeO.none _)
      | (with_reducible refine LeO.ite ?_ ?_)
      | (with_reducible refine LeO.bind ?_ (fun _ => ?_)))
    · intro y0 y1 y2 y3 y4 y5 y6 y7 y8
      unfold stats_Sum.l0
      all_goals (repeat' first
      | (with_reducible exact ih0 _ _ _ _ _ _ _ _ _)
      | (with_reducible exact ih1 _ _ _ _ _ _ _ _ _)
      | (with_reducible exact stats_add.mono _ _ _ _ _ _ _ _ _)
      | (with_reducible exact stats_add_m1.mono _ _ _ _ _ _ _ _ _)
      | (with_reducible exact stats_add_m2.mono _ _ _ _ _ _ _ _ _)
      | (with_reducible exact stats_add_m3.mono _ _ _ _ _ _ _ _ _)
      | (with_reducible exact stats_add_m4.mono _ _ _ _ _ _ _ _ _)
      | (with_reducible exact LeO.refl _)
      | (with_reducible exact LeO.none _)
      | (with_reducible refine LeO.ite ?_ ?_)
      | (with_reducible refine LeO.bind ?_ (fun _ => ?_)))
theorem stats_Sum.mono : ∀ a0 k, LeO (stats_Sum.f k a0) (stats_Sum.f (k + 1) a0) := by
 intro a0 k
 obtain ⟨ih0, ih1⟩ := stats_Sum.mono_l k
 unfold stats_Sum.f
 repeat' first
  | (with_reducible exact ih0 _ _ _ _ _ _ _ _ _)
  | (with_reducible exact ih1 _ _ _ _ _ _ _ _ _)
  | (with_reducible exact stats_add.mono _ _ _ _ _ _ _ _ _)
  | (with_reducible exact stats_add_m1.mono _ _ _ _ _ _ _ _ _)
  | (with_reducible exact stats_add_m2.mono _ _ _ _ _ _ _ _ _)
  | (with_reducible exact stats_add_m3.mono _ _ _ _ _ _ _ _ _)
  | (with_reducible exact stats_add_m4.mono _ _ _ _ _ _ _ _ _)
  | (with_reducible exact LeO.refl _)
  | (with_reducible exact LeO.none _)
  | (with_reducible refine LeO.ite ?_ ?_)
  | (with_reducible refine LeO.bind ?_ (fun _ => ?_))
set_option maxHeartbeats 8000000 in
theorem conf_InPool.mono_l : ∀ k, (∀ y0 y1 y2 y3 y4, LeO (conf_InPool.l0 k y0 y1 y2 y3 y4) (conf_InPool.l0 (k + 1) y0 y1 y2 y3 y4)) ∧ (∀ y0 y1 y2 y3 y4 y5 y6 y7 y8 y9 y10 y11 y12 y13 y14 y15 y16, LeO (conf_InPool.l1 k y0 y1 y2 y3 y4 y5 y6 y7 y8 y9 y10 y11 y12 y13 y14 y15 y16) (conf_InPool.l1 (k + 1) y0 y1 y2 y3 y4 y5 y6 y7 y8 y9 y10 y11 y12 y13 y14 y15 y16))
  | 0 => ⟨fun _ _ _ _ _ r h => by simp [conf_InPool.l0] at h, fun _ _ _ _ _ _ _ _ _ _ _ _ _ _ _ _ _ r h => by simp [conf_InPool.l1] at h⟩
  | k + 1 => by
    obtain ⟨ih0, ih1⟩ := conf_InPool.mono_l k
    refine ⟨?_, ?_⟩
    · intro y0 y1 y2 y3 y4
      unfold conf_InPool.l0
      all_goals (repeat' first
      | (with_reducible exact ih0 _ _ _ _ _)
      | (with_reducible exact ih1 _ _ _ _ _ _ _ _ _ _ _ _ _ _ _ _ _)
      | (with_reducible exact conf_right.mono _ _ _ _)
      | (with_reducible exact LeO.refl _)
      | (with_reducible exact LeO.none _)
      | (with_reducible refine LeO.ite ?_ ?_)
      | (with_reducible refine LeO.bind ?_ (fun _ => ?_)))
    · intro y0 y1 y2 y3 y4 y5 y6 y7 y8 y9 y10 y11 y12 y13 y14 y15 y16
      unfold conf_InPool.l1
      all_goals (repeat' first
      | (with_reducible exact ih0 _ _ _ _ _)
      | (with_reducible exact ih1 _ _ _ _ _ _ _ _ _ _ _ _ _ _ _ _ _)
      | (with_reducible exact conf_right.mono _ _ _ _)
      | (with_reducible exact LeO.refl _)
      | (with_reducible exact LeO.none _)
      | (with_reducible refine LeO.ite ?_ ?_)
      | (with_reducible refine LeO.bind ?_ (fun _ => ?_)))
theorem conf_InPool.mono : ∀ a0 a1 a2 a3 a4 k, LeO (conf_InPool.f k a0 a1 a2 a3 a4) (conf_InPool.f (k + 1) a0 a1 a2 a3 a4) := by
 intro a0 a1 a2 a3 a4 k
 obtain ⟨ih0, ih1⟩ := conf_InPool.mono_l k
 unfold conf_InPool.f
 repeat' first
  | (with_reducible exact ih0 _ _ _ _ _)
  | (with_reducible exact ih1 _ _ _ _ _ _ _ _ _ _ _ _ _ _ _ _ _)
  | (with_reducible exact conf_right.mono _ _ _ _)
  | (with_reducible exact LeO.refl _)
  | (with_reducible exact LeO.none _)
  | (with_reducible refine LeO.ite ?_ ?_)
  | (with_reducible refine LeO.bind ?_ (fun _ => ?_))
theorem queue_Until.mono : ∀ a0 a1 a2 k, LeO (queue_Until.f k a0 a1 a2) (queue_Until.f (k + 1) a0 a1 a2) := by
 intro a0 a1 a2 k
 unfold queue_Until.f
 repeat' first
  | (with_reducible exact table_Get.mono _ _ _)
  | (with_reducible exact LeO.refl _)
  | (with_reducible exact LeO.none _)
  | (with_reducible refine LeO.ite ?_ ?_)
  | (with_reducible refine LeO.bind ?_ (fun _ => ?_))
set_option maxHeartbeats 8000000 in
theorem stats_Wait.mono_l : ∀ k, (∀ y0 y1 y2 y3 y4 y5 y6 y7, LeO (stats_Wait.l0 k y0 y1 y2 y3 y4 y5 y6 y7) (stats_Wait.l0 (k + 1) y0 y1 y2 y3 y4 y5 y6 y7)) ∧ (∀ y0 y1 y2 y3 y4 y5 y6 y7 y8 y9 y10, LeO (stats_Wait.l1 k y0 y1 y2 y3 y4 y5 y6 y7 y8 y9 y10) (stats_Wait.l1 (k + 1) y0 y1 y2 y3 y4 y5 y6 y7 y8 y9 y10))
  | 0 => ⟨fun _ _ _ _ _ _ _ _ r h => by simp [stats_Wait.l0] at h, fun _ _ _ _ _ _ _ _ _ _ _ r h => by simp [stats_Wait.l1] at h⟩
  | k + 1 => by
    obtain ⟨ih0, ih1⟩ := stats_Wait.mono_l k
    refine ⟨?_, ?_⟩
    · intro y0 y1 y2 y3 y4 y5 y6 y7
      unfold stats_Wait.l0
      all_goals (repeat' first
      | (with_reducible exact ih0 _ _ _ _ _ _ _ _)
      | (with_reducible exact ih1 _ _ _ _ _ _ _ _ _ _ _)
      | (with_reducible exact conf_Keeper.mono _ _ _ _ _)
      | (with_reducible exact conf_InPool.mono _ _ _ _ _ _)
      | (with_reducible exact queue_Until.mono _ _ _ _)
      | (with_reducible exact stats_Count.mono _ _ _ _ _ _)
      | (with_reducible exact LeO.refl _)
      | (with_reducible exact LeO.none _)
      | (with_reducible refine LeO.ite ?_ ?_)
      | (with_reducible refine LeO.bind ?_ (fun _ => ?_)))
    · intro y0 y1 y2 y3 y4 y5 y6 y7 y8 y9 y10
      unfold stats_Wait.l1
      all_goals (repeat' first
      | (with_reducible exact ih0 _ _ _ _ _ _ _ _)
      | (with_reducible exact ih1 _ _ _ _ _ _ _ _ _ _ _)
      | (with_reducible exact conf_Keeper.mono _ _ _ _ _)
      | (with_reducible exact conf_InPool.mono _ _ _ _ _ _)
      | (with_reducible exact queue_Until.mono _ _ _ _)
      | (with_reducible exact stats_Count.mono _ _ _ _ _ _)
      | (with_reducible exact LeO.refl _)
      | (with_reducible exact LeO.none _)
      | (with_reducible refine LeO.ite ?_ ?_)
      | (with_reducible refine LeO.bind ?_ (fun _ => ?_)))
theorem stats_Wait.mono : ∀ a0 a1 a2 a3 a4 a5 k, LeO (stats_Wait.f k a0 a1 a2 a3 a4 a5) (stats_Wait.f (k + 1) a0 a1 a2 a3 a4 a5) := by
 intro a0 a1 a2 a3 a4 a5 k
 obtain ⟨ih0, ih1⟩ := stats_Wait.mono_l k
 unfold stats_Wait.f
 repeat' first
  | (with_reducible exact ih0 _ _ _ _ _ _ _ _)
  | (with_reducible exact ih1 _ _ _ _ _ _ _ _ _ _ _)
  | (with_reducible exact conf_Keeper.mono _ _ _ _ _)
  | (with_reducible exact conf_InPool.mono _ _ _ _ _ _)
  | (with_reducible exact queue_Until.mono _ _ _ _)
  | (with_reducible exact stats_Count.mono _ _ _ _ _ _)
  | (with_reducible exact LeO.refl _)
  | (with_reducible exact LeO.none _)
  | (with_reducible refine LeO.ite ?_ ?_)
  | (with_reducible refine LeO.bind ?_ (fun _ => ?_))
theorem boarderlaw26_knows.mono : ∀ k, LeO (boarderlaw26_knows.f k) (boarderlaw26_knows.f (k + 1)) := by
 intro k
 unfold boarderlaw26_knows.f
 repeat' first
  | (with_reducible exact stats_Count.mono _ _ _ _ _ _)
  | (with_reducible exact stats_Sum.mono _ _)
  | (with_reducible exact stats_Wait.mono _ _ _ _ _ _ _)
  | (with_reducible exact LeO.refl _)
  | (with_reducible exact LeO.none _)
  | (with_reducible refine LeO.ite ?_ ?_)
  | (with_reducible refine LeO.bind ?_ (fun _ => ?_))
end Go.Proofs.Ytopbcamlagdieaa.PStats
set_option linter.unusedVariables false
set_option linter.unusedSimpArgs false
namespace Go.Proofs.Ytopbcamlagdieaa.Com
open Go.RowKit Go.Proofs.YtopbcamlagdieaaW.PrintWords Go.Proofs.YtopbcamlagdieaaW.PrintLast Go.Proofs.YtopbcamlagdieaaW.PrintMore

theorem toNat_ofInt_nat (a : Nat) (ha : a < 9223372036854775808) : (BitVec.ofInt 64 (a : Int)).toNat = a := by
  rw [BitVec.ofInt_natCast, BitVec.toNat_ofNat]; exact Nat.mod_eq_of_lt (by omega)
theorem i64_and_nat (a b : Nat) (ha : a < 9223372036854775808) (hb : b < 9223372036854775808) : Go.bits .and .i64 (a : Int) (b : Int) = ((a &&& b : Nat) : Int) := by
  have hx : a &&& b < 2 ^ 63 := Nat.and_lt_two_pow _ (by omega)
  show IntKind.i64.wrap ((BitVec.ofInt 64 (a : Int) &&& BitVec.ofInt 64 (b : Int)).toNat : Int) = _
  rw [BitVec.toNat_and, toNat_ofInt_nat a ha, toNat_ofInt_nat b hb, IntKind.wrap_i64]
  omega
theorem i64_or_nat (a b : Nat) (ha : a < 9223372036854775808) (hb : b < 9223372036854775808) : Go.bits .or .i64 (a : Int) (b : Int) = ((a ||| b : Nat) : Int) := by
  have hx : a ||| b < 2 ^ 63 := Nat.or_lt_two_pow (by omega) (by omega)
  show IntKind.i64.wrap ((BitVec.ofInt 64 (a : Int) ||| BitVec.ofInt 64 (b : Int)).toNat : Int) = _
  rw [BitVec.toNat_or, toNat_ofInt_nat a ha, toNat_ofInt_nat b hb, IntKind.wrap_i64]
  omega
/-- 'or' of a multiple of 2^n and of a number below 2^n. -/
theorem i64_or_add (a p : Nat) (n : Nat) (hp : p < 2 ^ n) (h : a * 2 ^ n + p < 9223372036854775808) : Go.bits .or .i64 ((a * 2 ^ n : Nat) : Int) (p : Int) = ((a * 2 ^ n + p : Nat) : Int) := by
  rw [i64_or_nat _ _ (by omega) (by omega), Nat.mul_comm a, ← Nat.two_pow_add_eq_or_of_lt hp a]
end Go.Proofs.Ytopbcamlagdieaa.Com
set_option linter.unusedVariables false
set_option linter.unusedSimpArgs false
namespace Go.Proofs.Ytopbcamlagdieaa.Com
open Go.RowKit Go.Proofs.YtopbcamlagdieaaW.PrintWords Go.Proofs.YtopbcamlagdieaaW.PrintLast Go.Proofs.YtopbcamlagdieaaW.PrintMore

/-! ### decimal digits -/
/-- A number's decimal digits, as bytes' numbers. -/
def decI (n : Nat) : List Int := if h : n < 10 then [(48 + n : Int)] else decI (n / 10) ++ [(48 + (n % 10 : Nat) : Int)]
termination_by n
decreasing_by omega
/-- Bytes of numbers. -/
def bys (l : List Int) : List UInt8 := l.map fun n => UInt8.ofNat n.toNat
/-! ### an address's text -/
def b3 (a : Nat) : Nat := a / 16777216 % 256
def b2 (a : Nat) : Nat := a / 65536 % 256
def b1 (a : Nat) : Nat := a / 256 % 256
def b0 (a : Nat) : Nat := a % 256
def textI (a : Nat) : List Int := decI (b3 a) ++ 46 :: (decI (b2 a) ++ 46 :: (decI (b1 a) ++ 46 :: decI (b0 a)))
def textB (a : Nat) : List UInt8 := bys (textI a)

/-! ### reading it -/
/-- What is left of a text, as its bytes; the address and the part so far, the part's digits, the points. -/
def addrGo : List UInt8 → Int → Int → Int → Int → Int × Int
  | [], a, p, m, q => if q = 3 ∧ 0 < m then (a * 256 + p, 0) else (0, 2)
  | c :: cs, a, p, m, q =>
    if (c.toNat : Int) = 46 ∧ 0 < m ∧ q < 3 then addrGo cs (a * 256 + p) 0 0 (q + 1)
    else if 48 ≤ (c.toNat : Int) ∧ (c.toNat : Int) ≤ 57 ∧ (m = 0 ∨ 0 < p) ∧ p * 10 + ((c.toNat : Int) - 48) ≤ 255 then addrGo cs a (p * 10 + ((c.toNat : Int) - 48)) (m + 1) q
    else (0, 2)
/-- The text of what was read so far: the points' parts, and the part that is begun. -/
def soFar (a p m q : Int) : List UInt8 :=
  (if q ≤ 0 then [] else if q ≤ 1 then bys (decI a.toNat ++ [46]) else if q ≤ 2 then bys (decI (a.toNat / 256) ++ 46 :: (decI (a.toNat % 256) ++ [46])) else bys (decI (a.toNat / 65536) ++ 46 :: (decI (a.toNat / 256 % 256) ++ 46 :: (decI (a.toNat % 256) ++ [46]))))
   ++ (if m ≤ 0 then [] else bys (decI p.toNat))
/-- What holds of the numbers. -/
def AInv (a p m q : Int) : Prop := 0 ≤ p ∧ p ≤ 255 ∧ 0 ≤ m ∧ (m ≤ 0 → p ≤ 0) ∧ 0 ≤ q ∧ q ≤ 3 ∧ 0 ≤ a ∧ (q ≤ 0 → a ≤ 0) ∧ (q ≤ 1 → a ≤ 255) ∧ (q ≤ 2 → a ≤ 65535) ∧ a ≤ 16777215
/-! ### prefixes -/
/-- How many addresses a prefix of so many bits has. -/
def sz (n : Int) : Nat := 2 ^ (32 - n.toNat)
theorem sz_pos (n : Int) : 0 < sz n := Nat.two_pow_pos _
theorem sz_le (n : Int) : sz n ≤ 4294967296 := by
  have : sz n ≤ 2 ^ 32 := Nat.pow_le_pow_right (by omega) (by omega)
  omega
theorem sz_all (n : Int) (h0 : 0 ≤ n) (h1 : n ≤ 32) : 4294967296 = sz n * 2 ^ n.toNat := by
  unfold sz
  rw [← Nat.pow_add, show 32 - n.toNat + n.toNat = 32 from by omega]
/-- A mask of the highest of 32 bits. -/
theorem mask_eq (j : Nat) (hj : j ≤ 32) : 4294967296 - 2 ^ j = (2 ^ (32 - j) - 1) * 2 ^ j := by
  rw [Nat.sub_mul, ← Nat.pow_add, show 32 - j + j = 32 from by omega, Nat.one_mul]
theorem mask_bit (j i : Nat) (hj : j ≤ 32) : (4294967296 - 2 ^ j).testBit i = (decide (j ≤ i) && decide (i < 32)) := by
  rw [mask_eq j hj, Nat.testBit_mul_two_pow, Nat.testBit_two_pow_sub_one]
  by_cases h : j ≤ i
  · by_cases h2 : i < 32
    · simp [h, h2, show i - j < 32 - j from by omega]
    · simp [h, h2, show ¬ i - j < 32 - j from by omega]
  · simp [h]
theorem high_bit (b i : Nat) (hb : b < 4294967296) (hi : 32 ≤ i) : b.testBit i = false :=
  Nat.testBit_lt_two_pow (Nat.lt_of_lt_of_le (show b < 2 ^ 32 from hb) (Nat.pow_le_pow_right (by omega) hi))
theorem and_mask (b j : Nat) (hb : b < 4294967296) (hj : j ≤ 32) : b &&& (4294967296 - 2 ^ j) = b / 2 ^ j * 2 ^ j := by
  apply Nat.eq_of_testBit_eq
  intro i
  rw [Nat.testBit_and, mask_bit j i hj, Nat.testBit_mul_two_pow, Nat.testBit_div_two_pow]
  by_cases h : j ≤ i
  · rw [show i - j + j = i from by omega]
    by_cases h2 : i < 32
    · simp [h, h2]
    · simp [h, h2, high_bit b i hb (by omega)]
  · simp [h]
theorem i64_andNot_mask (b j : Nat) (hb : b < 4294967296) (hj : j ≤ 32) : Go.bits .andNot .i64 (b : Int) ((4294967296 - 2 ^ j : Nat) : Int) = ((b % 2 ^ j : Nat) : Int) := by
  have hm : 4294967296 - 2 ^ j < 9223372036854775808 := Nat.lt_of_le_of_lt (Nat.sub_le _ _) (by omega)
  show IntKind.i64.wrap ((BitVec.ofInt 64 (b : Int) &&& ~~~ BitVec.ofInt 64 ((4294967296 - 2 ^ j : Nat) : Int)).toNat : Int) = _
  have key : (BitVec.ofInt 64 (b : Int) &&& ~~~ BitVec.ofInt 64 ((4294967296 - 2 ^ j : Nat) : Int)).toNat = b % 2 ^ j := by
    apply Nat.eq_of_testBit_eq
    intro i
    rw [BitVec.testBit_toNat, BitVec.getLsbD_and, BitVec.getLsbD_not, ← BitVec.testBit_toNat, ← BitVec.testBit_toNat, toNat_ofInt_nat b (by omega), toNat_ofInt_nat _ hm, mask_bit j i hj, Nat.testBit_mod_two_pow]
    by_cases h2 : i < 32
    · by_cases h : j ≤ i
      · simp [h, h2, show ¬ i < j from by omega]
      · simp [h, h2, show i < j from by omega, show i < 64 from by omega]
    · simp [high_bit b i hb (by omega)]
  rw [key, IntKind.wrap_i64]
  have : b % 2 ^ j ≤ b := Nat.mod_le _ _
  omega
/-- Is a prefix right? -/
def fairB (b n : Int) : Bool := decide (0 ≤ n ∧ n ≤ 32 ∧ 0 ≤ b ∧ b ≤ 4294967295 ∧ b % (sz n : Int) = 0)
theorem fairB_iff (b n : Int) : fairB b n = true ↔ 0 ≤ n ∧ n ≤ 32 ∧ 0 ≤ b ∧ b ≤ 4294967295 ∧ b % (sz n : Int) = 0 := by unfold fairB; exact decide_eq_true_iff
/-- Has it an address? -/
def hasB (b n a : Int) : Bool := fairB b n && decide (b ≤ a ∧ a < b + sz n)
/-- A prefix that is right ends within all addresses. -/
theorem fair_end (b n : Int) (h : fairB b n = true) : b + sz n ≤ 4294967296 := by
  obtain ⟨h0, h1, h2, h3, h4⟩ := (fairB_iff b n).1 h
  have e := sz_all n h0 h1
  have hp := sz_pos n
  obtain ⟨q, hq⟩ := Int.dvd_of_emod_eq_zero h4
  have hlt : q < ((2 ^ n.toNat : Nat) : Int) := by
    refine Int.lt_of_not_ge fun hge => ?_
    have : (sz n : Int) * ((2 ^ n.toNat : Nat) : Int) ≤ sz n * q := Int.mul_le_mul_of_nonneg_left hge (by omega)
    rw [← Int.natCast_mul, ← e] at this
    omega
  have : (sz n : Int) * (q + 1) ≤ sz n * ((2 ^ n.toNat : Nat) : Int) := Int.mul_le_mul_of_nonneg_left (by omega) (by omega)
  rw [← Int.natCast_mul, ← e, Int.mul_add, ← hq] at this
  omega
end Go.Proofs.Ytopbcamlagdieaa.Com
set_option linter.unusedVariables false
set_option linter.unusedSimpArgs false
namespace Go.Proofs.Ytopbcamlagdieaa.PStats
open Go.RowKit Go.Proofs.YtopbcamlagdieaaW.PrintWords Go.Proofs.YtopbcamlagdieaaW.PrintLast Go.Proofs.YtopbcamlagdieaaW.PrintMore

abbrev Le := S68
abbrev leZ : Le := z68
/-- Is a key right? -/
def keyB (s : ByteArray) : Bool := decide (3 ≤ s.size) && (decide (bt s 0 = 105 ∧ s.size ≤ 256) || decide (bt s 0 = 104 ∧ s.size ≤ 18))
/-- Is a lease right? -/
def leaseB (l : Le) : Bool := decide (0 ≤ l.f0 ∧ l.f0 ≤ 4294967295 ∧ 1 ≤ l.f1 ∧ l.f1 ≤ 3 ∧ 0 ≤ l.f2 ∧ l.f2 ≤ 1125899906842624) && keyB l.f3
theorem leaseB_of {l : Le} (h : leaseB l = true) : 0 ≤ l.f0 ∧ l.f0 ≤ 4294967295 ∧ 1 ≤ l.f1 ∧ l.f1 ≤ 3 ∧ 0 ≤ l.f2 ∧ l.f2 ≤ 1125899906842624 ∧ keyB l.f3 = true := by
  unfold leaseB at h
  rw [Bool.and_eq_true, decide_eq_true_iff] at h
  obtain ⟨⟨a, b, c, d, e, f⟩, g⟩ := h
  exact ⟨a, b, c, d, e, f, g⟩
/-- The element of a place. -/
abbrev atL (t : List Le) (j : Nat) : Le := t.getD j leZ
theorem atL_mem {t : List Le} {j : Nat} (h : j < t.length) : atL t j ∈ t := by
  unfold atL
  rw [List.getD_eq_getElem?_getD, List.getElem?_eq_getElem h]
  exact List.getElem_mem h
theorem atL_get {t : List Le} {j : Nat} (h : j < t.length) : atL t j = t[j] := by
  unfold atL
  rw [List.getD_eq_getElem?_getD, List.getElem?_eq_getElem h]; rfl
theorem mem_atL {t : List Le} {l : Le} (h : l ∈ t) : ∃ j, j < t.length ∧ atL t j = l := by
  obtain ⟨j, hj, e⟩ := List.mem_iff_getElem.1 h
  exact ⟨j, hj, by rw [atL_get hj]; exact e⟩
/-- Strictly by addresses. -/
def Asc (t : List Le) : Prop := t.Pairwise (fun a b => a.f0 < b.f0)
instance (t : List Le) : Decidable (Asc t) := by unfold Asc; infer_instance
theorem asc_at {t : List Le} (h : Asc t) {i j : Nat} (hij : i < j) (hj : j < t.length) : (atL t i).f0 < (atL t j).f0 := by
  rw [atL_get (by omega), atL_get hj]
  exact List.pairwise_iff_getElem.1 h i j (by omega) hj hij
theorem asc_of_at {t : List Le} (h : ∀ j, j + 1 < t.length → (atL t j).f0 < (atL t (j + 1)).f0) : Asc t := by
  refine List.pairwise_iff_getElem.2 ?_
  have key : ∀ d i, i + d + 1 < t.length → (atL t i).f0 < (atL t (i + d + 1)).f0 := by
    intro d
    induction d with
    | zero => intro i hi; exact h i hi
    | succ d ih =>
      intro i hi
      have h1 := ih i (by omega)
      have h2 := h (i + d + 1) (by omega)
      exact Int.lt_trans h1 h2
  intro i j hi hj hij
  have := key (j - i - 1) i (by omega)
  rw [show i + (j - i - 1) + 1 = j from by omega, atL_get hi, atL_get hj] at this
  exact this
/-- Is it a table? -/
def Tab (t : List Le) : Prop := t.length ≤ 64 ∧ (∀ l ∈ t, leaseB l = true) ∧ Asc t
instance (t : List Le) : Decidable (Tab t) := by unfold Tab; infer_instance
/-- Few leases, of short keys. -/
def Small (t : List Le) : Prop := t.length ≤ 500 ∧ ∀ l ∈ t, l.f3.size ≤ maxLen
theorem tab_iff (t : List Le) : Tab t ↔ t.length ≤ 64 ∧ ∀ j, j < t.length → leaseB (atL t j) = true ∧ (0 < j → (atL t (j - 1)).f0 < (atL t j).f0) := by
  constructor
  · rintro ⟨h1, h2, h3⟩
    exact ⟨h1, fun j hj => ⟨h2 _ (atL_mem hj), fun h0 => asc_at h3 (by omega) hj⟩⟩
  · rintro ⟨h1, h2⟩
    refine ⟨h1, fun l hl => ?_, asc_of_at fun j hj => ?_⟩
    · obtain ⟨j, hj, rfl⟩ := mem_atL hl
      exact (h2 j hj).1
    · exact (h2 (j + 1) hj).2 (by omega)
theorem tab_iff2 (t : List Le) : Tab t ↔ t.length ≤ 64 ∧ ∀ j, j < t.length → leaseB (atL t j) = true ∧ (j + 1 < t.length → (atL t j).f0 < (atL t (j + 1)).f0) := by
  rw [tab_iff]
  constructor
  · rintro ⟨h1, h2⟩
    exact ⟨h1, fun j hj => ⟨(h2 j hj).1, fun h0 => (h2 (j + 1) h0).2 (by omega)⟩⟩
  · rintro ⟨h1, h2⟩
    refine ⟨h1, fun j hj => ⟨(h2 j hj).1, fun h0 => ?_⟩⟩
    have := (h2 (j - 1) (by omega)).2 (by omega)
    rw [show j - 1 + 1 = j from by omega] at this
    exact this
/-- A table, or the empty one. -/
def goodL (t : List Le) : List Le := if Tab t then t else []
theorem tab_nil : Tab ([] : List Le) := ⟨by simp, fun l h => by simp at h, List.Pairwise.nil⟩
theorem goodL_tab (t : List Le) : Tab (goodL t) := by
  unfold goodL
  by_cases h : Tab t
  · rw [if_pos h]; exact h
  · rw [if_neg h]; exact tab_nil
theorem goodL_of {t : List Le} (h : Tab t) : goodL t = t := if_pos h
/-- What is got. -/
def ans (o : Option Le) : Int × Int × Int × ByteArray × Bool := match o with | some l => (l.f0, l.f1, l.f2, l.f3, true) | none => (0, 0, 0, ⟨#[]⟩, false)
def getL (t : List Le) (a : Int) : Option Le := t.find? (fun l => decide (l.f0 = a))
theorem getL_some {t : List Le} (h : Asc t) {l : Le} (hl : l ∈ t) : getL t l.f0 = some l := by
  unfold getL
  obtain ⟨x, hx⟩ : ∃ x, t.find? (fun q => decide (q.f0 = l.f0)) = some x := Option.isSome_iff_exists.1 (List.find?_isSome.2 ⟨l, hl, by simp⟩)
  have h1 : x.f0 = l.f0 := by simpa using List.find?_some hx
  have h2 := List.mem_of_find?_eq_some hx
  rw [hx]
  obtain ⟨i, hi, rfl⟩ := mem_atL h2
  obtain ⟨j, hj, rfl⟩ := mem_atL hl
  rcases Nat.lt_trichotomy i j with c | c | c
  · have := asc_at h c hj; omega
  · subst c; rfl
  · have := asc_at h c hi; omega
theorem getL_none {t : List Le} {a : Int} (h : ∀ l ∈ t, l.f0 ≠ a) : getL t a = none := by
  unfold getL
  rw [List.find?_eq_none]
  intro l hl
  simpa using h l hl
theorem getL_mem {t : List Le} {a : Int} {l : Le} (h : getL t a = some l) : l ∈ t ∧ l.f0 = a := ⟨List.mem_of_find?_eq_some h, by simpa using List.find?_some h⟩
/-- A table with a lease. -/
def setL (t : List Le) (l : Le) : List Le := t.filter (fun x => decide (x.f0 < l.f0)) ++ l :: t.filter (fun x => decide (l.f0 < x.f0))
/-- What the document's setting does, from an element on. -/
def refSet (l : Le) : Bool → List Le → List Le
  | put, [] => if put = true then [] else [l]
  | put, x :: r => (if put = false ∧ l.f0 ≤ x.f0 then [l] else []) ++ ((if x.f0 = l.f0 then [] else [x]) ++ refSet l (put || decide (l.f0 ≤ x.f0)) r)
def holdsB (l : Le) (now : Int) : Bool := decide (l.f1 = 1 ∧ now < l.f2)
def restsB (l : Le) (now : Int) : Bool := decide (l.f1 = 3 ∧ now < l.f2)
/-- May a client have an address? -/
def freeB (t : List Le) (a : Int) (k : ByteArray) (now : Int) : Bool := match getL t a with | none => true | some l => !restsB l now && (!holdsB l now || decide (l.f3.toList = k.toList))
def sweepL (t : List Le) (now : Int) : List Le := t.filter (fun l => holdsB l now || restsB l now)
/-- A client's leases. -/
def ofL (t : List Le) (k : ByteArray) : List Le := t.filter (fun l => decide (l.f3.toList = k.toList))
end Go.Proofs.Ytopbcamlagdieaa.PStats
set_option linter.unusedVariables false
set_option linter.unusedSimpArgs false
namespace Go.Proofs.Ytopbcamlagdieaa.PStats
open Go.RowKit Go.Proofs.YtopbcamlagdieaaW.PrintWords Go.Proofs.YtopbcamlagdieaaW.PrintLast Go.Proofs.YtopbcamlagdieaaW.PrintMore

/-- Ahead by the end, then by the address. -/
def bef (a b : Le) : Prop := a.f2 < b.f2 ∨ (a.f2 = b.f2 ∧ a.f0 < b.f0)
instance (a b : Le) : Decidable (bef a b) := by unfold bef; infer_instance
def Ord (t : List Le) : Prop := t.Pairwise bef
/-- Each with an address of its own. -/
def Dif (t : List Le) : Prop := t.Pairwise (fun a b => a.f0 ≠ b.f0)
/-- A lease is put ahead of the first one that it must stand ahead of. -/
def insL (a : Le) : List Le → List Le
  | [] => [a]
  | b :: r => if bef a b then a :: b :: r else b :: insL a r
/-- One by one. -/
def sortF : List Le → List Le → List Le
  | out, [] => out
  | out, a :: r => sortF (insL a out) r
def sortL (t : List Le) : List Le := sortF [] t
/-- The leases that end, by their ends. -/
def endsL (g : List Le) : List Le := sortL (g.filter (fun l => decide (l.f1 ≠ 2)))
/-- Those that end behind a moment, up to another one. -/
def endedL (g : List Le) (a b : Int) : List Le := (endsL g).filter (fun l => decide (a < l.f2 ∧ l.f2 ≤ b))
def laterL (g : List Le) (now : Int) : List Le := (endsL g).filter (fun l => decide (now < l.f2))
def nextA (t : List Le) : Int × Bool := match t with | [] => (0, false) | l :: _ => (l.f2, true)
def countsB (l : Le) (now : Int) : Bool := holdsB l now || restsB l now
theorem counts_iff (l : Le) (now : Int) (h1 : 1 ≤ l.f1) (h3 : l.f1 ≤ 3) : countsB l now = true ↔ l.f1 ≠ 2 ∧ now < l.f2 := by
  unfold countsB holdsB restsB
  rw [Bool.or_eq_true, decide_eq_true_iff, decide_eq_true_iff]
  omega
/-- How long an address is not free. -/
def untilL (g : List Le) (a now : Int) : Int := match getL g a with | some l => if countsB l now = true then wrap64 (l.f2 - now) else 0 | none => 0
end Go.Proofs.Ytopbcamlagdieaa.PStats
set_option linter.unusedVariables false
set_option linter.unusedSimpArgs false
namespace Go.Proofs.Ytopbcamlagdieaa.PStats
open Go.RowKit Go.Proofs.YtopbcamlagdieaaW.PrintWords Go.Proofs.YtopbcamlagdieaaW.PrintLast Go.Proofs.YtopbcamlagdieaaW.PrintMore

/-! Loops that end at the first round that doesn't pass. -/
theorem loopE {β : Type} {L : Nat → Int → Option β} {n : Nat} (p : Nat → Prop) (v : Nat → β) {r : β}
    (hok : ∀ i, i < n → p i → ∀ r, Ev (fun k => L k ((i + 1 : Nat) : Int)) r → Ev (fun k => L k (i : Int)) r)
    (hbad : ∀ i, i < n → ¬ p i → Ev (fun k => L k (i : Int)) (v i))
    (hend : (∀ i, i < n → p i) → Ev (fun k => L k (n : Int)) r)
    (hr : ∀ i, i < n → (∀ j, j < i → p j) → ¬ p i → r = v i) : Ev (fun k => L k 0) r := by
  have H : ∀ d i, i + d = n → (∀ j, j < i → p j) → Ev (fun k => L k (i : Int)) r := by
    intro d
    induction d with
    | zero =>
      intro i hi hp
      obtain rfl : i = n := by omega
      exact hend hp
    | succ d ih =>
      intro i hi hp
      by_cases h : p i
      · refine hok i (by omega) h _ (ih (i + 1) (by omega) (fun j hj => ?_))
        rcases Nat.lt_succ_iff_lt_or_eq.1 hj with h1 | h1
        · exact hp j h1
        · subst h1; exact h
      · rw [hr i (by omega) hp h]
        exact hbad i (by omega) h
  exact H n 0 (by omega) (fun j hj => by omega)
/-- The same, where a round that doesn't pass always ends it alike. -/
theorem loopC {β : Type} {L : Nat → Int → Option β} {n : Nat} (p : Nat → Prop) (c : β) {r : β}
    (hok : ∀ i, i < n → p i → ∀ r, Ev (fun k => L k ((i + 1 : Nat) : Int)) r → Ev (fun k => L k (i : Int)) r)
    (hbad : ∀ i, i < n → ¬ p i → Ev (fun k => L k (i : Int)) c)
    (hend : (∀ i, i < n → p i) → Ev (fun k => L k (n : Int)) r)
    (hr : (∃ i, i < n ∧ ¬ p i) → r = c) : Ev (fun k => L k 0) r :=
  loopE p (fun _ => c) hok hbad hend (fun i hi _ h => hr ⟨i, hi, h⟩)
theorem wrap_next {i n : Nat} (h : i < n) (hn : n ≤ 140737488355328) : wrap64 ((i : Int) + 1) = ((i + 1 : Nat) : Int) := by unfold wrap64; omega
theorem Ev.eqv {α : Type} {g : Nat → Option α} {r s : α} (h : Ev g r) (e : r = s) : Ev g s := e ▸ h
theorem Ev.pos {α : Type} {c : Prop} [Decidable c] (h : c) {f g : Nat → Option α} {r : α} (e : Ev f r) : Ev (fun k => if c then f k else g k) r := Ev.congr (fun _ => if_pos h) e
theorem Ev.neg {α : Type} {c : Prop} [Decidable c] (h : ¬ c) {f g : Nat → Option α} {r : α} (e : Ev g r) : Ev (fun k => if c then f k else g k) r := Ev.congr (fun _ => if_neg h) e
theorem Ev.some' {α : Type} {r : α} : Ev (fun _ => some r) r := Ev.now r

abbrev Rg := S76
abbrev Rs := S65
abbrev Sb := S60
abbrev Nt := S56
abbrev Sp := S86
/-- What a law's reading and its guard tell of a configuration: no list and no key is great. -/
def Sm (nets : List Nt) : Prop := nets.length ≤ 10 ∧ ∀ n ∈ nets, n.f0.length ≤ 10 ∧ ∀ s ∈ n.f0, s.f2.length ≤ 20 ∧ s.f3.length ≤ 20 ∧ ∀ r ∈ s.f3, r.f0.size ≤ 1000
def SmS (s : Sb) : Prop := s.f2.length ≤ 20 ∧ s.f3.length ≤ 20 ∧ ∀ r ∈ s.f3, r.f0.size ≤ 1000
/-- Is a subnet's form right? -/
def FairS (s : Sb) : Prop := Com.fairB s.f0 s.f1 = true ∧ 8 ≤ s.f1 ∧ s.f1 ≤ 30 ∧ s.f2.length ≤ 4 ∧ s.f3.length ≤ 8 ∧ 0 ≤ s.f4 ∧ s.f4 ≤ 99 ∧ 1 ≤ s.f6 ∧ s.f6 ≤ 2147483648 ∧ (∀ i, (h : i < s.f2.length) → s.f2[i].f0 ≤ s.f2[i].f1) ∧ ∀ i, (h : i < s.f3.length) → keyB s.f3[i].f0 = true
theorem rd_get {α : Type} {xs : List α} {i : Nat} {d : α} (h : i < xs.length) : xs.getD ((i : Int)).toNat d = xs[i] := by
  rw [Int.toNat_natCast, List.getD_eq_getElem?_getD, List.getElem?_eq_getElem h]; rfl
/-- All subnets, and their places. -/
def subAt (n : Int) : Nat → List Sb → List Sp
  | _, [] => []
  | i, s :: r => ⟨n, (i : Int), s⟩ :: subAt n (i + 1) r
def spotsFrom : Nat → List Nt → List Sp
  | _, [] => []
  | n, x :: r => subAt (n : Int) 0 x.f0 ++ spotsFrom (n + 1) r
def spotsL (nets : List Nt) : List Sp := spotsFrom 0 nets
theorem subAt_len (n : Int) : ∀ (i : Nat) (l : List Sb), (subAt n i l).length = l.length
  | _, [] => rfl
  | i, s :: r => by rw [subAt, List.length_cons, subAt_len n (i + 1) r, List.length_cons]
theorem subAt_mem {n : Int} {x : Sp} : ∀ {i : Nat} {l : List Sb}, x ∈ subAt n i l → x.f0 = n ∧ x.f2 ∈ l
  | i, s :: r, h => by
    rw [subAt, List.mem_cons] at h
    rcases h with rfl | h
    · exact ⟨rfl, List.mem_cons_self⟩
    · exact ⟨(subAt_mem h).1, List.mem_cons_of_mem _ (subAt_mem h).2⟩
theorem subAt_of {n : Int} {s : Sb} : ∀ {i : Nat} {l : List Sb}, s ∈ l → ∃ x ∈ subAt n i l, x.f2 = s
  | i, t :: r, h => by
    rcases List.mem_cons.1 h with rfl | h
    · exact ⟨_, List.mem_cons_self, rfl⟩
    · obtain ⟨x, hx, e⟩ := subAt_of (i := i + 1) h
      exact ⟨x, List.mem_cons_of_mem _ hx, e⟩
theorem spots_mem {x : Sp} : ∀ {n : Nat} {nets : List Nt}, x ∈ spotsFrom n nets → ∃ y ∈ nets, x.f2 ∈ y.f0
  | n, y :: r, h => by
    rw [spotsFrom, List.mem_append] at h
    rcases h with h | h
    · exact ⟨y, List.mem_cons_self, (subAt_mem h).2⟩
    · obtain ⟨z, hz, hx⟩ := spots_mem h
      exact ⟨z, List.mem_cons_of_mem _ hz, hx⟩
theorem spots_of {y : Nt} {s : Sb} (hs : s ∈ y.f0) : ∀ {n : Nat} {nets : List Nt}, y ∈ nets → ∃ x ∈ spotsFrom n nets, x.f2 = s
  | n, z :: r, h => by
    rcases List.mem_cons.1 h with rfl | h
    · obtain ⟨x, hx, e⟩ := subAt_of (n := (n : Int)) (i := 0) hs
      exact ⟨x, by rw [spotsFrom]; exact List.mem_append_left _ hx, e⟩
    · obtain ⟨x, hx, e⟩ := spots_of hs (n := n + 1) h
      exact ⟨x, by rw [spotsFrom]; exact List.mem_append_right _ hx, e⟩
/-- What holds of all spots holds of all subnets, and the other way round. -/
theorem spots_all {F : Sb → Prop} {nets : List Nt} : (∀ x ∈ spotsL nets, F x.f2) ↔ ∀ n ∈ nets, ∀ s ∈ n.f0, F s :=
  ⟨fun h n hn s hs => by obtain ⟨x, hx, rfl⟩ := spots_of hs (n := 0) hn; exact h x hx, fun h x hx => by obtain ⟨y, hy, hx⟩ := spots_mem hx; exact h y hy _ hx⟩
theorem spots_len : ∀ {n : Nat} {nets : List Nt}, (∀ x ∈ nets, x.f0.length ≤ 10) → (spotsFrom n nets).length ≤ 10 * nets.length
  | n, [], _ => by simp [spotsFrom]
  | n, x :: r, h => by
    rw [spotsFrom, List.length_append, subAt_len, List.length_cons]
    have := spots_len (n := n + 1) (fun y hy => h y (List.mem_cons_of_mem _ hy))
    have := h x List.mem_cons_self
    omega
def FormP (a b : Int) (nets : List Nt) : Prop := 0 ≤ a ∧ a ≤ 4294967295 ∧ 1 ≤ b ∧ b ≤ 2147483648 ∧ nets.length ≤ 4 ∧ (∀ n ∈ nets, 1 ≤ n.f0.length ∧ n.f0.length ≤ 4) ∧ ∀ n ∈ nets, ∀ s ∈ n.f0, FairS s
/-- May a subnet lend an address? -/
def InS (s : Sb) (a : Int) : Prop := s.f0 < a ∧ a < s.f0 + (Com.sz s.f1 : Int) - 1
instance (s : Sb) (a : Int) : Decidable (InS s a) := by unfold InS; infer_instance
def PlaceS (srv : Int) (s : Sb) : Prop := (∀ i, (h : i < s.f2.length) → InS s s.f2[i].f0 ∧ InS s s.f2[i].f1 ∧ ¬ (s.f2[i].f0 ≤ srv ∧ srv ≤ s.f2[i].f1)) ∧ (∀ i, (h : i < s.f3.length) → InS s s.f3[i].f1 ∧ s.f3[i].f1 ≠ srv) ∧ (s.f5 ≠ 0 → Com.hasB s.f0 s.f1 s.f5 = true)
/-- Do two prefixes meet? -/
def meetC (b n c m : Int) : Bool := Com.fairB b n && (Com.fairB c m && (decide (b ≤ c ∧ c < b + Com.sz n) || decide (c ≤ b ∧ b < c + Com.sz m)))
theorem meetC_comm (b n c m : Int) : meetC b n c m = meetC c m b n := by
  unfold meetC
  cases Com.fairB b n <;> cases Com.fairB c m <;> simp [Bool.or_comm]
def DisjP (p q : Rg) : Prop := ¬ (p.f0 ≤ q.f0 ∧ q.f0 ≤ p.f1) ∧ ¬ (q.f0 ≤ p.f0 ∧ p.f0 ≤ q.f1)
def DifR (n n' : Int) (r q : Rs) : Prop := r.f1 ≠ q.f1 ∧ ¬ (n = n' ∧ r.f0.toList = q.f0.toList)
def FarS (x y : Sp) : Prop := meetC x.f2.f0 x.f2.f1 y.f2.f0 y.f2.f1 = false ∧ ¬ (x.f0 ≠ y.f0 ∧ x.f2.f4 = y.f2.f4 ∧ x.f2.f4 > 0)
theorem FarS.symm {x y : Sp} (h : FarS x y) : FarS y x := ⟨by rw [meetC_comm]; exact h.1, fun h2 => h.2 ⟨h2.1.symm, h2.2.1.symm, by rw [← h2.2.1]; exact h2.2.2⟩⟩
theorem DifR.symm {n n' : Int} {r q : Rs} (h : DifR n n' r q) : DifR n' n q r := ⟨h.1.symm, fun h2 => h.2 ⟨h2.1.symm, h2.2.symm⟩⟩
def OnceP (x y : Sp) (same : Bool) : Prop := (same = false → FarS x y) ∧ (same = true → ∀ i j, (hi : i < x.f2.f2.length) → (hj : j < y.f2.f2.length) → i ≠ j → DisjP x.f2.f2[i] y.f2.f2[j]) ∧
  ∀ i j, (hi : i < x.f2.f3.length) → (hj : j < y.f2.f3.length) → (same = true → i ≠ j) → DifR x.f0 y.f0 x.f2.f3[i] y.f2.f3[j]
def UnlikeP (l : List Sp) : Prop := ∀ i j, (hi : i < l.length) → (hj : j < l.length) → OnceP l[i] l[j] (decide (i = j))
def OverP (p q : Rg) : Prop := p.f0 ≤ q.f1 ∧ q.f0 ≤ p.f1
def PooledP (s : Sb) : Prop := ∃ i j, ∃ (hi : i < s.f2.length) (hj : j < i), OverP s.f2[i] s.f2[j]
/-- All reservations, each with its network. -/
def resL (l : List Sp) : List (Rs × Int) := l.flatMap (fun x => x.f2.f3.map (fun r => (r, x.f0)))
def DD (u v : Rs × Int) : Prop := DifR u.2 v.2 u.1 v.1
def FreeP (l : List Sp) : Prop := (∀ i, (hi : i < l.length) → ¬ PooledP l[i].f2 ∧ ∀ j, (hj : j < i) → FarS l[i] l[j]) ∧ ∀ a b, (ha : a < (resL l).length) → (hb : b < a) → DD (resL l)[a] (resL l)[b]
theorem pw_iff {α : Type} {D : α → α → Prop} {l : List α} : (∀ a b, (ha : a < l.length) → (hb : b < a) → D l[a] l[b]) ↔ l.Pairwise (fun u v => D v u) := by
  rw [List.pairwise_iff_getElem]
  exact ⟨fun h i j hi hj hij => h j i hj hij, fun h a b ha hb => h b a (by omega) ha hb⟩
theorem resL_pw (l : List Sp) : (resL l).Pairwise (fun u v => DD v u) ↔ (∀ x ∈ l, x.f2.f3.Pairwise (fun r q => DifR x.f0 x.f0 q r)) ∧ l.Pairwise (fun x y => ∀ r ∈ x.f2.f3, ∀ q ∈ y.f2.f3, DifR y.f0 x.f0 q r) := by
  unfold resL
  rw [List.pairwise_flatMap]
  constructor
  · rintro ⟨h1, h2⟩
    refine ⟨fun x hx => ?_, h2.imp (fun h r hr q hq => ?_)⟩
    · have := h1 x hx
      rw [List.pairwise_map] at this
      exact this
    · exact h (r, _) (List.mem_map.2 ⟨r, hr, rfl⟩) (q, _) (List.mem_map.2 ⟨q, hq, rfl⟩)
  · rintro ⟨h1, h2⟩
    refine ⟨fun x hx => ?_, h2.imp (fun h u hu v hv => ?_)⟩
    · rw [List.pairwise_map]
      exact h1 x hx
    · obtain ⟨r, hr, rfl⟩ := List.mem_map.1 hu
      obtain ⟨q, hq, rfl⟩ := List.mem_map.1 hv
      exact h r hr q hq
/-- Nothing is there twice, by each of two ways to say so. -/
theorem unlike_iff {l : List Sp} (hv : ∀ x ∈ l, ∀ i, (h : i < x.f2.f2.length) → x.f2.f2[i].f0 ≤ x.f2.f2[i].f1) : UnlikeP l ↔ FreeP l := by
  unfold FreeP
  rw [pw_iff (D := DD), resL_pw]
  constructor
  · intro h
    refine ⟨fun i hi => ⟨?_, fun j hj => ?_⟩, ?_, ?_⟩
    · rintro ⟨a, b, ha, hb, ho⟩
      have h1 := (h i i hi hi).2.1 (decide_eq_true rfl) a b ha (by omega) (by omega)
      unfold DisjP at h1
      unfold OverP at ho
      obtain ⟨h1, h2⟩ := h1
      rcases Int.le_total l[i].f2.f2[a].f0 l[i].f2.f2[b].f0 with c | c
      · exact h1 ⟨c, ho.2⟩
      · exact h2 ⟨c, ho.1⟩
    · exact (h i j hi (by omega)).1 (decide_eq_false (by omega))
    · intro x hx
      obtain ⟨i, hi, rfl⟩ := List.mem_iff_getElem.1 hx
      rw [List.pairwise_iff_getElem]
      intro a b ha hb hab
      exact (h i i hi hi).2.2 b a hb ha (fun _ => by omega)
    · rw [List.pairwise_iff_getElem]
      intro i j hi hj hij r hr q hq
      obtain ⟨a, ha, rfl⟩ := List.mem_iff_getElem.1 hr
      obtain ⟨b, hb, rfl⟩ := List.mem_iff_getElem.1 hq
      exact (h j i hj hi).2.2 b a hb ha (fun e => absurd (of_decide_eq_true e) (by omega))
  · rintro ⟨h1, h2, h3⟩ i j hi hj
    rw [List.pairwise_iff_getElem] at h3
    refine ⟨fun e => ?_, fun e a b ha hb hab => ?_, fun a b ha hb he => ?_⟩
    · have hne : i ≠ j := of_decide_eq_false e
      rcases Nat.lt_or_gt_of_ne hne with c | c
      · exact ((h1 j hj).2 i c).symm
      · exact (h1 i hi).2 j c
    · have hij : i = j := of_decide_eq_true e
      subst hij
      have hp := (h1 i hi).1
      have v1 := hv l[i] (List.getElem_mem hi) a ha
      have v2 := hv l[i] (List.getElem_mem hi) b hb
      have no : ¬ OverP l[i].f2.f2[a] l[i].f2.f2[b] := by
        intro ho
        rcases Nat.lt_or_gt_of_ne hab with c | c
        · exact hp ⟨b, a, hb, c, ho.2, ho.1⟩
        · exact hp ⟨a, b, ha, c, ho⟩
      exact ⟨fun h => no ⟨Int.le_trans h.1 v2, h.2⟩, fun h => no ⟨h.2, Int.le_trans h.1 v1⟩⟩
    · by_cases hij : i = j
      · subst hij
        have hab := he (decide_eq_true rfl)
        have h4 := h2 l[i] (List.getElem_mem hi)
        rw [List.pairwise_iff_getElem] at h4
        rcases Nat.lt_or_gt_of_ne hab with c | c
        · exact (h4 a b ha hb c).symm
        · exact h4 b a hb ha c
      · rcases Nat.lt_or_gt_of_ne hij with c | c
        · exact (h3 i j hi hj c _ (List.getElem_mem ha) _ (List.getElem_mem hb)).symm
        · exact h3 j i hj hi c _ (List.getElem_mem hb) _ (List.getElem_mem ha)
open Classical in
/-- What is wrong with a configuration. -/
noncomputable def checkI (a b : Int) (nets : List Nt) : Int := if FormP a b nets then (if ∀ n ∈ nets, ∀ s ∈ n.f0, PlaceS a s then (if UnlikeP (spotsL nets) then 0 else 8) else 9) else 1
theorem form_unlike {a b : Int} {nets : List Nt} (h : FormP a b nets) : UnlikeP (spotsL nets) ↔ FreeP (spotsL nets) :=
  unlike_iff (fun x hx i hi => ((spots_all (F := FairS)).2 h.2.2.2.2.2.2 x hx).2.2.2.2.2.2.2.2.2.1 i hi)
/-! Searches. -/
theorem loopF {α β : Type} (l : List α) (q : α → Option β) {L : Nat → Int → Option β} {r : β}
    (hs : ∀ i, (hi : i < l.length) → ∀ v, q l[i] = some v → Ev (fun k => L k (i : Int)) v)
    (hn : ∀ i, (hi : i < l.length) → q l[i] = none → ∀ r, Ev (fun k => L k ((i + 1 : Nat) : Int)) r → Ev (fun k => L k (i : Int)) r)
    (he : l.findSome? q = none → Ev (fun k => L k (l.length : Int)) r) (hr : ∀ v, l.findSome? q = some v → r = v) : Ev (fun k => L k 0) r := by
  have H : ∀ d i, i + d = l.length → (l.drop i).findSome? q = l.findSome? q → Ev (fun k => L k (i : Int)) r := by
    intro d
    induction d with
    | zero =>
      intro i hi hp
      obtain rfl : i = l.length := by omega
      rw [List.drop_length] at hp
      exact he hp.symm
    | succ d ih =>
      intro i hi hp
      have hl : i < l.length := by omega
      rw [List.drop_eq_getElem_cons hl, List.findSome?_cons] at hp
      cases c : q l[i] with
      | some v =>
        rw [c] at hp
        rw [hr v hp.symm]
        exact hs i hl v c
      | none =>
        rw [c] at hp
        exact hn i hl c _ (ih (i + 1) (by omega) hp)
  exact H l.length 0 (by omega) (by rw [List.drop_zero])
theorem getD_some {β : Type} {o : Option β} {d v : β} (h : o = some v) : o.getD d = v := by rw [h]; rfl
theorem getD_none {β : Type} {o : Option β} {d : β} (h : o = none) : o.getD d = d := by rw [h]; rfl
theorem nestF {β : Type} (nets : List Nt) (q : Sp → Option β) (d : β) {L0 : Nat → Int → Option β} {L1 : Nat → Int → Int → Option β}
    (h0 : ∀ m, m < nets.length → ∀ r, Ev (fun k => L1 k (m : Int) 0) r → Ev (fun k => L0 k (m : Int)) r) (h0e : Ev (fun k => L0 k (nets.length : Int)) d)
    (hs : ∀ m i, (hm : m < nets.length) → (hi : i < nets[m].f0.length) → ∀ v, q ⟨(m : Int), (i : Int), nets[m].f0[i]⟩ = some v → Ev (fun k => L1 k (m : Int) (i : Int)) v)
    (hn : ∀ m i, (hm : m < nets.length) → (hi : i < nets[m].f0.length) → q ⟨(m : Int), (i : Int), nets[m].f0[i]⟩ = none → ∀ r, Ev (fun k => L1 k (m : Int) ((i + 1 : Nat) : Int)) r → Ev (fun k => L1 k (m : Int) (i : Int)) r)
    (he : ∀ m, (hm : m < nets.length) → ∀ r, Ev (fun k => L0 k ((m + 1 : Nat) : Int)) r → Ev (fun k => L1 k (m : Int) (nets[m].f0.length : Int)) r) :
    Ev (fun k => L0 k 0) (((spotsL nets).findSome? q).getD d) := by
  have H : ∀ e m, m + e = nets.length → Ev (fun k => L0 k (m : Int)) (((spotsFrom m (nets.drop m)).findSome? q).getD d) := by
    intro e
    induction e with
    | zero =>
      intro m hm
      obtain rfl : m = nets.length := by omega
      rw [List.drop_length, spotsFrom]
      exact h0e
    | succ e ih =>
      intro m hm
      have hl : m < nets.length := by omega
      have hI := ih (m + 1) (by omega)
      rw [List.drop_eq_getElem_cons hl, spotsFrom]
      have H1 : ∀ f i, i + f = nets[m].f0.length → Ev (fun k => L1 k (m : Int) (i : Int)) (((subAt (m : Int) i (nets[m].f0.drop i) ++ spotsFrom (m + 1) (nets.drop (m + 1))).findSome? q).getD d) := by
        intro f
        induction f with
        | zero =>
          intro i hi
          obtain rfl : i = nets[m].f0.length := by omega
          rw [List.drop_length, subAt, List.nil_append]
          exact he m hl _ hI
        | succ f ihf =>
          intro i hi
          have hi2 : i < nets[m].f0.length := by omega
          rw [List.drop_eq_getElem_cons hi2, subAt, List.cons_append, List.findSome?_cons]
          cases c : q ⟨(m : Int), (i : Int), nets[m].f0[i]⟩ with
          | some v => exact hs m i hl hi2 v c
          | none => exact hn m i hl hi2 c _ (ihf (i + 1) (by omega))
      have h2 := H1 nets[m].f0.length 0 (by omega)
      rw [List.drop_zero] at h2
      exact h0 m hl _ h2
  have := H nets.length 0 (by omega)
  rwa [List.drop_zero] at this
theorem subAt_find {β : Type} (n c : Int) (g : Sb → Option β) : ∀ (i : Nat) (l : List Sb), (subAt n i l).findSome? (fun x => if x.f0 = c then g x.f2 else none) = if n = c then l.findSome? g else none
  | _, [] => by simp [subAt]
  | i, s :: r => by
    rw [subAt, List.findSome?_cons, subAt_find n c g (i + 1) r, List.findSome?_cons]
    by_cases h : n = c
    · simp only [if_pos h]
    · simp only [if_neg h]
theorem spots_find {β : Type} (c : Int) (g : Sb → Option β) : ∀ (nets : List Nt) (n : Nat), (spotsFrom n nets).findSome? (fun x => if x.f0 = c then g x.f2 else none) = if (n : Int) ≤ c ∧ c < (n : Int) + nets.length then ((nets.getD (c - n).toNat ⟨[]⟩).f0).findSome? g else none
  | [], n => by rw [if_neg (by rw [List.length_nil]; omega)]; rfl
  | x :: r, n => by
    rw [spotsFrom, List.findSome?_append, subAt_find, spots_find c g r (n + 1)]
    by_cases h : (n : Int) = c
    · subst h
      rw [if_pos rfl, if_neg (by omega), Option.or_none, if_pos ⟨Int.le_refl _, by rw [List.length_cons]; omega⟩, show ((n : Int) - n).toNat = 0 by omega]
      rfl
    · rw [if_neg h, Option.none_or]
      by_cases h2 : (n : Int) ≤ c ∧ c < (n : Int) + (x :: r).length
      · rw [if_pos h2, if_pos (by rw [List.length_cons] at h2; omega), show (c - n).toNat = (c - ((n + 1 : Nat) : Int)).toNat + 1 by omega]
        rfl
      · rw [if_neg h2, if_neg (by rw [List.length_cons] at h2; omega)]
/-- The subnets of a configuration that is right. -/
noncomputable def rightL (a b : Int) (nets : List Nt) : List Sp := if checkI a b nets = 0 then spotsL nets else []
theorem rightL_len {a b : Int} {nets : List Nt} (h : Sm nets) : (rightL a b nets).length ≤ 1000 := by
  unfold rightL
  by_cases c : checkI a b nets = 0
  · rw [if_pos c]
    have := spots_len (n := 0) (fun x hx => (h.2 x hx).1); have := h.1; unfold spotsL; omega
  · rw [if_neg c]; simp
theorem rightL_sm {a b : Int} {nets : List Nt} (h : Sm nets) : ∀ x ∈ rightL a b nets, SmS x.f2 := by
  unfold rightL
  by_cases c : checkI a b nets = 0
  · rw [if_pos c]; exact (spots_all (F := SmS)).2 (fun n hn s hs => (h.2 n hn).2 s hs)
  · rw [if_neg c]; intro x hx; simp at hx
def findQ (a : Int) (x : Sp) : Option (Int × Int × Bool) := if Com.hasB x.f2.f0 x.f2.f1 a = true then some (x.f0, x.f1, true) else none
def wireQ (i : Int) (x : Sp) : Option (Int × Int × Bool) := if x.f2.f4 = i ∧ i > 0 then some (x.f0, x.f1, true) else none
def keptG (k : ByteArray) (s : Sb) : Option (Int × Bool) := s.f3.findSome? (fun r => if r.f0.toList = k.toList then some (r.f1, true) else none)
def keepG (a : Int) (s : Sb) : Option (ByteArray × Bool) := s.f3.findSome? (fun r => if r.f1 = a then some (r.f0, true) else none)
def poolG (a : Int) (s : Sb) : Option Bool := s.f2.findSome? (fun p => if p.f0 ≤ a ∧ a ≤ p.f1 then some true else none)
noncomputable def findL (a b : Int) (nets : List Nt) (x : Int) : Int × Int × Bool := ((rightL a b nets).findSome? (findQ x)).getD (0, 0, false)
noncomputable def wireL (a b : Int) (nets : List Nt) (x : Int) : Int × Int × Bool := ((rightL a b nets).findSome? (wireQ x)).getD (0, 0, false)
noncomputable def keptL (a b : Int) (nets : List Nt) (n : Int) (k : ByteArray) : Int × Bool := ((rightL a b nets).findSome? (fun x => if x.f0 = n then keptG k x.f2 else none)).getD (0, false)
noncomputable def keepL (a b : Int) (nets : List Nt) (x : Int) : ByteArray × Bool := ((rightL a b nets).findSome? (fun y => keepG x y.f2)).getD (⟨#[]⟩, false)
noncomputable def poolL (a b : Int) (nets : List Nt) (n x : Int) : Bool := ((rightL a b nets).findSome? (fun y => if y.f0 = n then poolG x y.f2 else none)).getD false
end Go.Proofs.Ytopbcamlagdieaa.PStats
set_option linter.unusedVariables false
set_option linter.unusedSimpArgs false
namespace Go.Proofs.Ytopbcamlagdieaa.PStats
open Go.RowKit Go.Proofs.YtopbcamlagdieaaW.PrintWords Go.Proofs.YtopbcamlagdieaaW.PrintLast Go.Proofs.YtopbcamlagdieaaW.PrintMore
/-! What a configuration that is right has. -/
theorem has_iff {b n x : Int} : Com.hasB b n x = true ↔ Com.fairB b n = true ∧ b ≤ x ∧ x < b + (Com.sz n : Int) := by unfold Com.hasB; rw [Bool.and_eq_true, decide_eq_true_iff]
theorem has_meet {b n c m x : Int} (h1 : Com.hasB b n x = true) (h2 : Com.hasB c m x = true) : meetC b n c m = true := by
  obtain ⟨f1, a1, b1⟩ := has_iff.1 h1
  obtain ⟨f2, a2, b2⟩ := has_iff.1 h2
  unfold meetC
  rw [f1, f2, Bool.true_and, Bool.true_and, Bool.or_eq_true, decide_eq_true_iff, decide_eq_true_iff]
  omega
theorem in_has {s : Sb} {a : Int} (h : FairS s) (hi : InS s a) : Com.hasB s.f0 s.f1 a = true := has_iff.2 ⟨h.1, by have := hi.1; omega, by have := hi.2; omega⟩
theorem has_uniq {l : List Sp} (hU : UnlikeP l) {x : Int} {y z : Sp} (hy : y ∈ l) (hz : z ∈ l) (h1 : Com.hasB y.f2.f0 y.f2.f1 x = true) (h2 : Com.hasB z.f2.f0 z.f2.f1 x = true) : y = z := by
  obtain ⟨i, hi, rfl⟩ := List.mem_iff_getElem.1 hy
  obtain ⟨j, hj, rfl⟩ := List.mem_iff_getElem.1 hz
  by_cases c : i = j
  · subst c; rfl
  · have := ((hU i j hi hj).1 (decide_eq_false c)).1
    rw [has_meet h1 h2] at this
    cases this
theorem pool_of {l : List Sp} {n a : Int} (h : (l.findSome? (fun y => if y.f0 = n then poolG a y.f2 else none)).getD false = true) : ∃ y ∈ l, y.f0 = n ∧ ∃ i, ∃ hi : i < y.f2.f2.length, y.f2.f2[i].f0 ≤ a ∧ a ≤ y.f2.f2[i].f1 := by
  cases c : l.findSome? (fun y => if y.f0 = n then poolG a y.f2 else none) with
  | none => rw [c] at h; cases h
  | some v =>
    obtain ⟨y, hy, hv⟩ := List.exists_of_findSome?_eq_some c
    by_cases h1 : y.f0 = n
    · rw [if_pos h1] at hv
      obtain ⟨p, hp, hv⟩ := List.exists_of_findSome?_eq_some hv
      obtain ⟨i, hi, rfl⟩ := List.mem_iff_getElem.1 hp
      by_cases h2 : y.f2.f2[i].f0 ≤ a ∧ a ≤ y.f2.f2[i].f1
      · exact ⟨y, hy, h1, i, hi, h2⟩
      · rw [if_neg h2] at hv; cases hv
    · rw [if_neg h1] at hv; cases hv
theorem keep_of {l : List Sp} {a : Int} {v : ByteArray × Bool} (h : l.findSome? (fun y => keepG a y.f2) = some v) : ∃ y ∈ l, ∃ i, ∃ hi : i < y.f2.f3.length, y.f2.f3[i].f1 = a ∧ v = (y.f2.f3[i].f0, true) := by
  obtain ⟨y, hy, hv⟩ := List.exists_of_findSome?_eq_some h
  obtain ⟨p, hp, hv⟩ := List.exists_of_findSome?_eq_some hv
  obtain ⟨i, hi, rfl⟩ := List.mem_iff_getElem.1 hp
  by_cases h2 : y.f2.f3[i].f1 = a
  · rw [if_pos h2] at hv
    exact ⟨y, hy, i, hi, h2, (Option.some.inj hv).symm⟩
  · rw [if_neg h2] at hv; cases hv
open Classical in
theorem check_zero {a b : Int} {nets : List Nt} (h : checkI a b nets = 0) : FormP a b nets ∧ (∀ n ∈ nets, ∀ s ∈ n.f0, PlaceS a s) ∧ UnlikeP (spotsL nets) := by
  unfold checkI at h
  by_cases c1 : FormP a b nets
  · rw [if_pos c1] at h
    by_cases c2 : ∀ n ∈ nets, ∀ s ∈ n.f0, PlaceS a s
    · rw [if_pos c2] at h
      by_cases c3 : UnlikeP (spotsL nets)
      · exact ⟨c1, c2, c3⟩
      · rw [if_neg c3] at h; exact absurd h (by decide)
    · rw [if_neg c2] at h; exact absurd h (by decide)
  · rw [if_neg c1] at h; exact absurd h (by decide)
end Go.Proofs.Ytopbcamlagdieaa.PStats
set_option linter.unusedVariables false
set_option linter.unusedSimpArgs false
namespace Go.Proofs.Ytopbcamlagdieaa.PStats
open Go.RowKit Go.Proofs.YtopbcamlagdieaaW.PrintWords Go.Proofs.YtopbcamlagdieaaW.PrintLast Go.Proofs.YtopbcamlagdieaaW.PrintMore

theorem Ev.ite' {α : Type} {c : Prop} [Decidable c] {f g : Nat → Option α} {r : α} (h1 : c → Ev f r) (h2 : ¬ c → Ev g r) : Ev (fun k => if c then f k else g k) r := by
  by_cases h : c
  · exact Ev.pos h (h1 h)
  · exact Ev.neg h (h2 h)
theorem beqD {α : Type} [BEq α] [LawfulBEq α] [DecidableEq α] (a b : α) : (a == b) = decide (a = b) := by rw [Bool.eq_iff_iff]; simp
theorem Ev.ret {α : Type} {x r : α} (h : x = r) : Ev (fun _ => some x) r := h ▸ Ev.now x
/-- A loop over a list that may end early: a fold from its end. -/
theorem loopR {α β : Type} (l : List α) (g : α → β → β) {L : Nat → Int → Option β} {r0 : β}
    (hs : ∀ i, (hi : i < l.length) → ∀ r, Ev (fun k => L k ((i + 1 : Nat) : Int)) r → Ev (fun k => L k (i : Int)) (g l[i] r))
    (he : Ev (fun k => L k (l.length : Int)) r0) : Ev (fun k => L k 0) (l.foldr g r0) := by
  have H : ∀ d i, i + d = l.length → Ev (fun k => L k (i : Int)) ((l.drop i).foldr g r0) := by
    intro d
    induction d with
    | zero =>
      intro i hi
      obtain rfl : i = l.length := by omega
      rw [List.drop_length]
      exact he
    | succ d ih =>
      intro i hi
      have hl : i < l.length := by omega
      rw [List.drop_eq_getElem_cons hl, List.foldr_cons]
      exact hs i hl _ (ih (i + 1) (by omega))
  exact H l.length 0 (by omega)
/-- A loop over a list that keeps a state: a fold from its beginning. -/
theorem loopL {α β σ : Type} (l : List α) (f : σ → α → σ) (P : Nat → σ → Prop) {L : Nat → Int → σ → Option β} {s : σ} {r : β} (h0 : P 0 s)
    (hP : ∀ i, (hi : i < l.length) → ∀ s, P i s → P (i + 1) (f s l[i]))
    (hs : ∀ i, (hi : i < l.length) → ∀ s, P i s → Ev (fun k => L k ((i + 1 : Nat) : Int) (f s l[i])) r → Ev (fun k => L k (i : Int) s) r)
    (he : P l.length (l.foldl f s) → Ev (fun k => L k (l.length : Int) (l.foldl f s)) r) : Ev (fun k => L k 0 s) r := by
  have H : ∀ d i s', i + d = l.length → P i s' → (l.drop i).foldl f s' = l.foldl f s → Ev (fun k => L k (i : Int) s') r := by
    intro d
    induction d with
    | zero =>
      intro i s' hi hp hf
      obtain rfl : i = l.length := by omega
      rw [List.drop_length] at hf
      obtain rfl : s' = l.foldl f s := hf
      exact he hp
    | succ d ih =>
      intro i s' hi hp hf
      have hl : i < l.length := by omega
      rw [List.drop_eq_getElem_cons hl, List.foldl_cons] at hf
      exact hs i hl s' hp (ih (i + 1) _ (by omega) (hP i hl s' hp) hf)
  exact H l.length 0 s (by omega) h0 rfl

/-- May anything be had? -/
noncomputable def fairA (a b : Int) (nets : List Nt) (t : List Le) (n : Int) (key : ByteArray) : Bool := decide (checkI a b nets = 0) && (decide (Tab t) && (keyB key && decide (0 ≤ n ∧ n < (nets.length : Int))))
theorem fairA_iff {a b : Int} {nets : List Nt} {t : List Le} {n : Int} {key : ByteArray} : fairA a b nets t n key = true ↔ checkI a b nets = 0 ∧ Tab t ∧ keyB key = true ∧ 0 ≤ n ∧ n < (nets.length : Int) := by
  unfold fairA; simp [and_assoc]
noncomputable def inA (a b : Int) (nets : List Nt) (n x : Int) : Bool := (findL a b nets x).2.2 && decide ((findL a b nets x).1 = n)
noncomputable def mineA (a b : Int) (nets : List Nt) (n : Int) (key : ByteArray) (x : Int) : Bool := (keptL a b nets n key).2 && decide ((keptL a b nets n key).1 = x)
noncomputable def poolA (a b : Int) (nets : List Nt) (n : Int) (key : ByteArray) (x : Int) : Bool := poolL a b nets n x && (!(keepL a b nets x).2 || decide ((keepL a b nets x).1.toList = key.toList))
/-- Does another lease of the client hold in the network? -/
noncomputable def othP (a b : Int) (nets : List Nt) (n x now : Int) (l : Le) : Bool := !decide (l.f0 = x) && (holdsB l now && inA a b nets n l.f0)
noncomputable def otherA (a b : Int) (nets : List Nt) (t : List Le) (n : Int) (key : ByteArray) (x now : Int) : Bool := (ofL t key).any (othP a b nets n x now)
noncomputable def mayA (a b : Int) (nets : List Nt) (t : List Le) (n : Int) (key : ByteArray) (x now : Int) : Bool :=
  fairA a b nets t n key && ((mineA a b nets n key x || poolA a b nets n key x) && (!otherA a b nets t n key x now && freeB t x key now))
/-- The addresses of a client's leases that hold in the network, and of the others there. -/
noncomputable def heldA (a b : Int) (nets : List Nt) (t : List Le) (n : Int) (key : ByteArray) (now : Int) : List Int := ((ofL t key).filter (fun l => inA a b nets n l.f0 && holdsB l now)).map (·.f0)
noncomputable def oldA (a b : Int) (nets : List Nt) (t : List Le) (n : Int) (key : ByteArray) (now : Int) : List Int := ((ofL t key).filter (fun l => inA a b nets n l.f0 && !holdsB l now)).map (·.f0)
def rangeL (lo hi : Int) : List Int := (List.range (hi + 1 - lo).toNat).map (fun i : Nat => lo + (i : Int))
theorem rangeL_nil {lo hi : Int} (h : ¬ lo ≤ hi) : rangeL lo hi = [] := by unfold rangeL; rw [show (hi + 1 - lo).toNat = 0 by omega]; rfl
theorem rangeL_cons {lo hi : Int} (h : lo ≤ hi) : rangeL lo hi = lo :: rangeL (lo + 1) hi := by
  unfold rangeL
  rw [show (hi + 1 - lo).toNat = (hi + 1 - (lo + 1)).toNat + 1 by omega, List.range_succ_eq_map, List.map_cons, List.map_map]
  congr 1
  · simp
  · refine List.map_congr_left fun i _ => ?_
    simp only [Function.comp]
    omega
theorem mem_rangeL {lo hi x : Int} : x ∈ rangeL lo hi ↔ lo ≤ x ∧ x ≤ hi := by
  unfold rangeL
  rw [List.mem_map]
  constructor
  · rintro ⟨i, hi2, rfl⟩
    rw [List.mem_range] at hi2
    omega
  · intro h
    exact ⟨(x - lo).toNat, List.mem_range.2 (by omega), by omega⟩
def subsA (nets : List Nt) (n : Int) : List Sb := (nets.getD n.toNat ⟨[]⟩).f0
def poolsA (nets : List Nt) (n : Int) : List Int := (subsA nets n).flatMap (fun s => s.f2.flatMap (fun p => rangeL p.f0 p.f1))
def ansA (o : Option Int) : Int × Bool := match o with | some x => (x, true) | none => (0, false)
/-- The first address of a list of which something holds, or what else. -/
def seekA (p : Int → Bool) (l : List Int) (r : Int × Bool) : Int × Bool := l.foldr (fun x r => if p x = true then (x, true) else r) r
theorem seekA_nil (p : Int → Bool) (r : Int × Bool) : seekA p [] r = r := rfl
theorem seekA_cons (p : Int → Bool) (x : Int) (l : List Int) (r : Int × Bool) : seekA p (x :: l) r = if p x = true then (x, true) else seekA p l r := rfl
theorem seekA_append (p : Int → Bool) (l m : List Int) (r : Int × Bool) : seekA p (l ++ m) r = seekA p l (seekA p m r) := by unfold seekA; rw [List.foldr_append]
theorem seekA_flat {α : Type} (p : Int → Bool) (g : α → List Int) : ∀ (l : List α) (r : Int × Bool), l.foldr (fun s r => seekA p (g s) r) r = seekA p (l.flatMap g) r
  | [], r => rfl
  | s :: l, r => by rw [List.foldr_cons, seekA_flat p g l r, List.flatMap_cons, seekA_append]
theorem seekA_find (p : Int → Bool) : ∀ l : List Int, seekA p l (0, false) = ansA (l.find? p)
  | [] => rfl
  | x :: l => by
    rw [seekA_cons, seekA_find p l, List.find?_cons]
    cases p x <;> rfl
noncomputable def keptA (a b : Int) (nets : List Nt) (n : Int) (key : ByteArray) : List Int := if (keptL a b nets n key).2 = true then [(keptL a b nets n key).1] else []
/-- The addresses that are tried, in their order. -/
noncomputable def tryA (a b : Int) (nets : List Nt) (t : List Le) (n : Int) (key : ByteArray) (want now : Int) : List Int :=
  if heldA a b nets t n key now = [] then keptA a b nets n key ++ (oldA a b nets t n key now ++ (want :: poolsA nets n)) else heldA a b nets t n key now
noncomputable def chooseA (a b : Int) (nets : List Nt) (t : List Le) (n : Int) (key : ByteArray) (want now : Int) : Option Int :=
  if fairA a b nets t n key = true then (tryA a b nets t n key want now).find? (fun x => mayA a b nets t n key x now) else none
theorem range_loop {β : Type} {L : Nat → Int → Option β} {hi : Int} (g : Int → β → β) {r0 : β} {lo : Int} (hs : ∀ x, lo ≤ x → x ≤ hi → ∀ r, Ev (fun k => L k (x + 1)) r → Ev (fun k => L k x) (g x r)) (he : ∀ x, hi < x → Ev (fun k => L k x) r0) : Ev (fun k => L k lo) ((rangeL lo hi).foldr g r0) := by
  have H : ∀ (d : Nat) (x : Int), lo ≤ x → (hi + 1 - x).toNat = d → Ev (fun k => L k x) ((rangeL x hi).foldr g r0) := by
    intro d
    induction d with
    | zero =>
      intro x hx hd
      rw [rangeL_nil (by omega)]
      exact he x (by omega)
    | succ d ih =>
      intro x hx hd
      rw [rangeL_cons (by omega), List.foldr_cons]
      exact hs x hx (by omega) _ (ih (x + 1) (by omega) (by omega))
  exact H _ lo (Int.le_refl _) rfl
/-- A loop over a list that may end early, with a state. -/
theorem loopRS {α β σ : Type} (l : List α) (g : α → (σ → β) → σ → β) {L : Nat → Int → σ → Option β} {r0 : σ → β}
    (hs : ∀ i, (hi : i < l.length) → ∀ r : σ → β, (∀ s, Ev (fun k => L k ((i + 1 : Nat) : Int) s) (r s)) → ∀ s, Ev (fun k => L k (i : Int) s) (g l[i] r s))
    (he : ∀ s, Ev (fun k => L k (l.length : Int) s) (r0 s)) (s : σ) : Ev (fun k => L k 0 s) (l.foldr g r0 s) := by
  have H : ∀ d i, i + d = l.length → ∀ s, Ev (fun k => L k (i : Int) s) ((l.drop i).foldr g r0 s) := by
    intro d
    induction d with
    | zero =>
      intro i hi s
      obtain rfl : i = l.length := by omega
      rw [List.drop_length]
      exact he s
    | succ d ih =>
      intro i hi s
      have hl : i < l.length := by omega
      rw [List.drop_eq_getElem_cons hl, List.foldr_cons]
      exact hs i hl _ (ih (i + 1) (by omega)) s
  exact H l.length 0 (by omega) s
theorem pool_bounds {a b : Int} {nets : List Nt} (h : checkI a b nets = 0) {n : Int} {s : Sb} (hs : s ∈ subsA nets n) {p : Rg} (hp : p ∈ s.f2) : 0 ≤ p.f0 ∧ p.f1 ≤ 4294967296 := by
  obtain ⟨hF, hP, hU⟩ := check_zero h
  have hn : n.toNat < nets.length := by
    rcases Nat.lt_or_ge n.toNat nets.length with h1 | h1
    · exact h1
    · unfold subsA at hs
      rw [List.getD_eq_getElem?_getD, List.getElem?_eq_none h1] at hs
      simp at hs
  have hm : nets[n.toNat] ∈ nets := List.getElem_mem hn
  have hs2 : s ∈ (nets[n.toNat]).f0 := by
    unfold subsA at hs
    rwa [List.getD_eq_getElem?_getD, List.getElem?_eq_getElem hn] at hs
  have h1 := hF.2.2.2.2.2.2 _ hm s hs2
  obtain ⟨i, hi, rfl⟩ := List.mem_iff_getElem.1 hp
  have h2 := (hP _ hm s hs2).1 i hi
  have h3 := Com.fair_end _ _ h1.1
  have h4 := (Com.fairB_iff _ _).1 h1.1
  have := h2.1.1
  have := h2.2.1.2
  exact ⟨by omega, by omega⟩
theorem subsA_sm {nets : List Nt} (h : Sm nets) (n : Int) : (subsA nets n).length ≤ 10 ∧ ∀ s ∈ subsA nets n, SmS s := by
  unfold subsA
  by_cases hn : n.toNat < nets.length
  · rw [List.getD_eq_getElem?_getD, List.getElem?_eq_getElem hn]
    exact h.2 _ (List.getElem_mem hn)
  · rw [List.getD_eq_getElem?_getD, List.getElem?_eq_none (by omega)]
    exact ⟨by simp, fun s hs => by simp at hs⟩
theorem heldR (p : Int → Bool) (P : Le → Bool) (R : Int × Bool) : ∀ (l : List Le) (s : Bool),
    l.foldr (fun l (r : Bool → Int × Bool) s => if P l = true then (if p l.f0 = true then (l.f0, true) else r true) else r s) (fun s => if s = true then (0, false) else R) s
      = seekA p ((l.filter P).map (·.f0)) (if s = true ∨ l.filter P ≠ [] then (0, false) else R)
  | [], s => by simp [seekA]
  | x :: l, s => by
    rw [List.foldr_cons]
    by_cases c : P x = true
    · rw [if_pos c, heldR p P R l true, List.filter_cons_of_pos c, List.map_cons, seekA_cons]
      simp
    · rw [if_neg c, heldR p P R l s, List.filter_cons_of_neg c]
theorem seekF (p : Int → Bool) (P : Le → Bool) (R : Int × Bool) : ∀ l : List Le,
    l.foldr (fun l r => if P l = true then (if p l.f0 = true then (l.f0, true) else r) else r) R = seekA p ((l.filter P).map (·.f0)) R
  | [] => rfl
  | x :: l => by
    rw [List.foldr_cons, seekF p P R l]
    by_cases c : P x = true
    · rw [if_pos c, List.filter_cons_of_pos c, List.map_cons, seekA_cons]
    · rw [if_neg c, List.filter_cons_of_neg c]
theorem choose_seek {a b : Int} {nets : List Nt} {t : List Le} {n : Int} {key : ByteArray} {want now : Int} (h : fairA a b nets t n key = true) :
    ansA (chooseA a b nets t n key want now) = seekA (fun x => mayA a b nets t n key x now) (tryA a b nets t n key want now) (0, false) := by
  unfold chooseA
  rw [if_pos h, seekA_find]

section
variable {a b : Int} {nets : List Nt} {t : List Le} {n : Int} {key : ByteArray} {x want now : Int}
theorem may_fair (h : mayA a b nets t n key x now = true) : fairA a b nets t n key = true := by unfold mayA at h; simp at h; exact h.1
theorem may_other (h : mayA a b nets t n key x now = true) : ∀ l ∈ ofL t key, holdsB l now = true → inA a b nets n l.f0 = true → l.f0 = x := by
  unfold mayA otherA at h
  simp only [Bool.and_eq_true, Bool.not_eq_true'] at h
  intro l hl h1 h2
  have := List.any_eq_false.1 h.2.2.1 l hl
  unfold othP at this
  simpa [h1, h2] using this
theorem may_way (h : mayA a b nets t n key x now = true) : mineA a b nets n key x = true ∨ poolA a b nets n key x = true := by unfold mayA at h; simp at h; exact h.2.1
theorem pool_mem (hc : checkI a b nets = 0) (h : poolL a b nets n x = true) : x ∈ poolsA nets n := by
  unfold poolL rightL at h
  rw [if_pos hc, show spotsL nets = spotsFrom 0 nets from rfl, spots_find n (poolG x) nets 0] at h
  split at h
  · rename_i hn
    have e : ((nets.getD (n - ((0 : Nat) : Int)).toNat ⟨[]⟩).f0) = subsA nets n := by unfold subsA; simp
    rw [e] at h
    cases c : (subsA nets n).findSome? (poolG x) with
    | none => rw [c] at h; cases h
    | some v =>
      obtain ⟨s, hs, hv⟩ := List.exists_of_findSome?_eq_some c
      obtain ⟨p, hp, hv⟩ := List.exists_of_findSome?_eq_some hv
      split at hv
      · rename_i hr
        exact List.mem_flatMap.2 ⟨s, hs, List.mem_flatMap.2 ⟨p, hp, mem_rangeL.2 hr⟩⟩
      · cases hv
  · cases h
theorem held_mem {y : Int} : y ∈ heldA a b nets t n key now ↔ ∃ l ∈ ofL t key, holdsB l now = true ∧ inA a b nets n l.f0 = true ∧ l.f0 = y := by
  unfold heldA
  rw [List.mem_map]
  constructor
  · rintro ⟨l, hl, rfl⟩
    rw [List.mem_filter, Bool.and_eq_true] at hl
    exact ⟨l, hl.1, hl.2.2, hl.2.1, rfl⟩
  · rintro ⟨l, h1, h2, h3, rfl⟩
    exact ⟨l, List.mem_filter.2 ⟨h1, by rw [h2, h3]; rfl⟩, rfl⟩
theorem choose_some (h : chooseA a b nets t n key want now = some x) : mayA a b nets t n key x now = true ∧ x ∈ tryA a b nets t n key want now := by
  unfold chooseA at h
  split at h
  · exact ⟨List.find?_some (p := fun x => mayA a b nets t n key x now) h, List.mem_of_find?_eq_some h⟩
  · cases h
theorem some_of_may (h : mayA a b nets t n key x now = true) (want : Int) : ∃ y, chooseA a b nets t n key want now = some y := by
  have hf := may_fair h
  have hc := (fairA_iff.1 hf).1
  have hm : x ∈ tryA a b nets t n key want now := by
    unfold tryA
    split
    · rcases may_way h with h1 | h1
      · unfold mineA at h1
        rw [Bool.and_eq_true, decide_eq_true_iff] at h1
        refine List.mem_append_left _ ?_
        unfold keptA
        rw [if_pos h1.1, h1.2]
        exact List.mem_singleton.2 rfl
      · unfold poolA at h1
        rw [Bool.and_eq_true] at h1
        exact List.mem_append_right _ (List.mem_append_right _ (List.mem_cons_of_mem _ (pool_mem hc h1.1)))
    · rename_i hne
      obtain ⟨y, hy⟩ := List.exists_mem_of_ne_nil _ hne
      obtain ⟨l, h1, h2, h3, rfl⟩ := held_mem.1 hy
      have := may_other h l h1 h2 h3
      rw [← this]; exact hy
  unfold chooseA
  rw [if_pos hf]
  cases c : (tryA a b nets t n key want now).find? (fun x => mayA a b nets t n key x now) with
  | some y => exact ⟨y, rfl⟩
  | none => exact absurd h (by simpa using List.find?_eq_none.1 c x hm)
end
theorem ans_two {o : Option Int} : (ansA o).2 = true ↔ ∃ x, o = some x ∧ (ansA o).1 = x := by
  cases o with
  | none => simp [ansA]
  | some x => simp [ansA]

end Go.Proofs.Ytopbcamlagdieaa.PStats
set_option linter.unusedVariables false
set_option linter.unusedSimpArgs false
namespace Go.Proofs.Ytopbcamlagdieaa.PStats
open Go.RowKit Go.Proofs.YtopbcamlagdieaaW.PrintWords Go.Proofs.YtopbcamlagdieaaW.PrintLast Go.Proofs.YtopbcamlagdieaaW.PrintMore

abbrev St := S25
theorem wrap_wrap (x y : Int) : wrap64 (wrap64 x + y) = wrap64 (x + y) := by unfold wrap64; omega
theorem wrap_of {x : Int} (h1 : -9223372036854775808 ≤ x) (h2 : x < 9223372036854775808) : wrap64 x = x := by unfold wrap64; omega
/-! Lists with the same elements, each once. -/
theorem nodup_len {α : Type} [DecidableEq α] {l m : List α} (h1 : l.Nodup) (h2 : m.Nodup) (h : ∀ x, x ∈ l ↔ x ∈ m) : l.length = m.length :=
  ((List.perm_ext_iff_of_nodup h1 h2).2 h).length_eq
theorem filter_split {α : Type} (p : α → Bool) : ∀ l : List α, (l.filter p).length + (l.filter (fun x => !p x)).length = l.length
  | [] => rfl
  | x :: l => by
    have := filter_split p l
    rw [List.filter_cons, List.filter_cons, List.length_cons]
    cases p x <;> simp <;> omega
theorem rangeL_nodup (lo hi : Int) : (rangeL lo hi).Nodup := by
  unfold rangeL
  exact List.pairwise_map.2 (List.nodup_range.imp (fun h e => h (by omega)))
theorem rangeL_len {lo hi : Int} (h : lo ≤ hi) : ((rangeL lo hi).length : Int) = hi + 1 - lo := by
  unfold rangeL
  rw [List.length_map, List.length_range]
  omega

/-! A subnet's counts. -/
def poolS (s : Sb) : List Int := s.f2.flatMap (fun p => rangeL p.f0 p.f1)
theorem poolS_mem {s : Sb} {x : Int} : x ∈ poolS s ↔ ∃ p ∈ s.f2, p.f0 ≤ x ∧ x ≤ p.f1 := by
  unfold poolS
  rw [List.mem_flatMap]
  exact ⟨fun ⟨p, h1, h2⟩ => ⟨p, h1, mem_rangeL.1 h2⟩, fun ⟨p, h1, h2⟩ => ⟨p, h1, mem_rangeL.2 h2⟩⟩
def inS (s : Sb) (x : Int) : Bool := s.f2.any (fun p => decide (p.f0 ≤ x ∧ x ≤ p.f1))
theorem inS_iff {s : Sb} {x : Int} : inS s x = true ↔ x ∈ poolS s := by
  unfold inS
  rw [List.any_eq_true, poolS_mem]
  simp
/-- The addresses of which anything is known. -/
def resS (t : List Le) (s : Sb) : List Int := (s.f3.filter (fun r => !(getL t r.f1).isSome)).map (·.f1)
def someL (nets : List Nt) (t : List Le) : List Int := t.map (·.f0) ++ nets.flatMap (fun n => n.f0.flatMap (resS t))
noncomputable def busyA (a b : Int) (nets : List Nt) (t : List Le) (now x : Int) : Bool := (keepL a b nets x).2 || (match getL t x with | some l => countsB l now | none => false)
def hasS (s : Sb) (l : Le) : Bool := Com.hasB s.f0 s.f1 l.f0
def heldN (s : Sb) (t : List Le) (now : Int) : Int := (t.filter (fun l => hasS s l && holdsB l now)).length
def restN (s : Sb) (t : List Le) (now : Int) : Int := (t.filter (fun l => hasS s l && restsB l now)).length
noncomputable def freeN (a b : Int) (nets : List Nt) (t : List Le) (s : Sb) (now : Int) : Int := ((poolS s).length : Int) - (((someL nets t).filter (fun x => inS s x && busyA a b nets t now x)).length : Int)
noncomputable def statS (a b : Int) (nets : List Nt) (t : List Le) (now : Int) (x : Sp) : St := ⟨x.f0, x.f1, ((poolS x.f2).length : Int), (x.f2.f3.length : Int), heldN x.f2 t now, restN x.f2 t now, freeN a b nets t x.f2 now⟩
noncomputable def countL (a b : Int) (nets : List Nt) (t : List Le) (now : Int) : List St × Int :=
  if checkI a b nets = 0 then (if Tab t then ((spotsL nets).map (statS a b nets t now), 0) else ([], 1)) else ([], checkI a b nets)
/-! Counts added up. -/
def netN : Option Int → List St → Nat
  | _, [] => 0
  | p, x :: r => (if p = some x.f0 then 0 else 1) + netN (some x.f0) r
theorem netN_snoc (x : St) : ∀ (l : List St) (p : Option Int), netN p (l ++ [x]) = netN p l + (if ((l.getLast?.map (·.f0)).or p) = some x.f0 then 0 else 1)
  | [], p => by by_cases c : p = some x.f0 <;> simp [netN, c]
  | y :: l, p => by
    rw [List.cons_append, netN, netN, netN_snoc x l (some y.f0), Nat.add_assoc]
    congr 3
    cases l with
    | nil => simp
    | cons z l => simp [List.getLast?_cons]
def sumA (l : List St) : Int × Int × Int × Int × Int × Int × Int :=
  ((netN none l : Int), (l.length : Int), wrap64 (l.map (·.f2)).sum, wrap64 (l.map (·.f3)).sum, wrap64 (l.map (·.f4)).sum, wrap64 (l.map (·.f5)).sum, wrap64 (l.map (·.f6)).sum)
/-! How long to wait. -/
noncomputable def candA (a b : Int) (nets : List Nt) (n now : Int) (l : Le) : Bool := !(keepL a b nets l.f0).2 && (countsB l now && poolL a b nets n l.f0)
def minStep (c : Le → Bool) (f l : Le) : Le := if c l = true then (if f.f1 = 0 then l else if l.f2 < f.f2 then l else f) else f
theorem min_spec (c : Le → Bool) : ∀ (t : List Le) (f : Le), (∀ l ∈ t, l.f1 ≠ 0) →
    (t.foldl (minStep c) f = f ∨ (t.foldl (minStep c) f ∈ t ∧ c (t.foldl (minStep c) f) = true ∧ (t.foldl (minStep c) f).f1 ≠ 0)) ∧
    (∀ l ∈ t, c l = true → (t.foldl (minStep c) f).f1 ≠ 0 ∧ (t.foldl (minStep c) f).f2 ≤ l.f2) ∧ (f.f1 ≠ 0 → (t.foldl (minStep c) f).f1 ≠ 0 ∧ (t.foldl (minStep c) f).f2 ≤ f.f2)
  | [], f, _ => ⟨.inl rfl, fun l h => by simp at h, fun h => ⟨h, Int.le_refl _⟩⟩
  | x :: t, f, h => by
    rw [List.foldl_cons]
    obtain ⟨p, q, r⟩ := min_spec c t (minStep c f x) (fun l hl => h l (List.mem_cons_of_mem _ hl))
    have hx := h x List.mem_cons_self
    generalize t.foldl (minStep c) (minStep c f x) = g at *
    unfold minStep at p r
    by_cases c1 : c x = true
    · rw [if_pos c1] at p r
      by_cases c2 : f.f1 = 0
      · rw [if_pos c2] at p r
        have r := r hx
        refine ⟨.inr ?_, fun l hl hc => ?_, fun h => absurd c2 h⟩
        · rcases p with rfl | p
          · exact ⟨List.mem_cons_self, c1, hx⟩
          · exact ⟨List.mem_cons_of_mem _ p.1, p.2⟩
        · rcases List.mem_cons.1 hl with rfl | hl
          · exact r
          · exact q l hl hc
      · rw [if_neg c2] at p r
        by_cases c3 : x.f2 < f.f2
        · rw [if_pos c3] at p r
          have r := r hx
          refine ⟨.inr ?_, fun l hl hc => ?_, fun h => ⟨r.1, by omega⟩⟩
          · rcases p with rfl | p
            · exact ⟨List.mem_cons_self, c1, hx⟩
            · exact ⟨List.mem_cons_of_mem _ p.1, p.2⟩
          · rcases List.mem_cons.1 hl with rfl | hl
            · exact r
            · exact q l hl hc
        · rw [if_neg c3] at p r
          have r := r c2
          refine ⟨?_, fun l hl hc => ?_, fun h => r⟩
          · rcases p with p | p
            · exact .inl p
            · exact .inr ⟨List.mem_cons_of_mem _ p.1, p.2⟩
          · rcases List.mem_cons.1 hl with rfl | hl
            · exact ⟨r.1, by omega⟩
            · exact q l hl hc
    · rw [if_neg c1] at p r
      refine ⟨?_, fun l hl hc => ?_, r⟩
      · rcases p with p | p
        · exact .inl p
        · exact .inr ⟨List.mem_cons_of_mem _ p.1, p.2⟩
      · rcases List.mem_cons.1 hl with rfl | hl
        · exact absurd hc c1
        · exact q l hl hc
noncomputable def firstA (a b : Int) (nets : List Nt) (t : List Le) (n now : Int) : Le := t.foldl (minStep (candA a b nets n now)) ⟨0, 0, 0, ⟨#[]⟩⟩
noncomputable def waitA (a b : Int) (nets : List Nt) (t : List Le) (n now : Int) : Int × Bool :=
  if (countL a b nets t now).2 = 0 ∧ 0 ≤ n ∧ n < (nets.length : Int) then
    (if (countL a b nets t now).1.any (fun s => decide (s.f0 = n ∧ s.f6 > 0)) = true then (0, true)
     else if (firstA a b nets t n now).f1 = 0 then (0, false) else (untilL t (firstA a b nets t n now).f0 now, true))
  else (0, false)
/-! What counts of a configuration that is right come to. -/
theorem spots_flat {α : Type} (g : Sb → List α) : ∀ (n : Nat) (nets : List Nt), (spotsFrom n nets).flatMap (fun x => g x.f2) = nets.flatMap (fun n => n.f0.flatMap g)
  | _, [] => rfl
  | n, x :: r => by
    rw [spotsFrom, List.flatMap_append, List.flatMap_cons, spots_flat g (n + 1) r]
    congr 1
    have key : ∀ (l : List Sb) (i : Nat), (subAt (n : Int) i l).flatMap (fun x => g x.f2) = l.flatMap g := by
      intro l
      induction l with
      | nil => intro i; rfl
      | cons s l ih => intro i; rw [subAt, List.flatMap_cons, List.flatMap_cons, ih]
    exact key _ _
section
variable {a b : Int} {nets : List Nt} (hc : checkI a b nets = 0)
include hc
theorem pool_nodup {x : Sp} (hx : x ∈ spotsL nets) : (poolS x.f2).Nodup := by
  obtain ⟨hF, hP, hU⟩ := check_zero hc
  obtain ⟨i, hi, rfl⟩ := List.mem_iff_getElem.1 hx
  have h1 := (hU i i hi hi).2.1 (decide_eq_true rfl)
  unfold poolS List.Nodup
  rw [List.pairwise_flatMap]
  refine ⟨fun p _ => rangeL_nodup _ _, ?_⟩
  rw [List.pairwise_iff_getElem]
  intro p q hp hq hpq u hu v hv e
  subst e
  obtain ⟨u1, u2⟩ := mem_rangeL.1 hu
  obtain ⟨v1, v2⟩ := mem_rangeL.1 hv
  have h2 := h1 p q hp hq (by omega)
  unfold DisjP at h2
  omega
theorem some_nodup {t : List Le} (hT : Tab t) : (someL nets t).Nodup := by
  obtain ⟨hF, hP, hU⟩ := check_zero hc
  unfold someL List.Nodup
  rw [List.pairwise_append]
  refine ⟨?_, ?_, ?_⟩
  · rw [List.pairwise_map]
    exact hT.2.2.imp (fun h => by omega)
  · rw [← spots_flat (resS t) 0 nets, List.pairwise_flatMap]
    refine ⟨fun x hx => ?_, ?_⟩
    · obtain ⟨i, hi, rfl⟩ := List.mem_iff_getElem.1 hx
      unfold resS
      rw [List.pairwise_map]
      refine List.Pairwise.filter _ ?_
      rw [List.pairwise_iff_getElem]
      intro p q hp hq hpq
      exact ((hU i i hi hi).2.2 p q hp hq (fun _ => by omega)).1
    · rw [List.pairwise_iff_getElem]
      intro i j hi hj hij u hu v hv
      unfold resS at hu hv
      obtain ⟨r, hr, rfl⟩ := List.mem_map.1 hu
      obtain ⟨q, hq, rfl⟩ := List.mem_map.1 hv
      obtain ⟨p, hp, rfl⟩ := List.mem_iff_getElem.1 (List.mem_filter.1 hr).1
      obtain ⟨o, ho, rfl⟩ := List.mem_iff_getElem.1 (List.mem_filter.1 hq).1
      exact ((hU i j hi hj).2.2 p o hp ho (fun e => absurd (of_decide_eq_true e) (by omega))).1
  · intro u hu v hv e
    subst e
    obtain ⟨l, hl, rfl⟩ := List.mem_map.1 hu
    rw [← spots_flat (resS t) 0 nets] at hv
    obtain ⟨x, hx, hv⟩ := List.mem_flatMap.1 hv
    obtain ⟨r, hr, e⟩ := List.mem_map.1 hv
    have := (List.mem_filter.1 hr).2
    rw [e, getL_some hT.2.2 hl] at this
    simp at this
theorem busy_some {t : List Le} {now x : Int} (h : busyA a b nets t now x = true) : x ∈ someL nets t := by
  unfold someL
  rw [List.mem_append]
  unfold busyA at h
  cases e : getL t x with
  | some l =>
    obtain ⟨h1, h2⟩ := getL_mem e
    exact .inl (List.mem_map.2 ⟨l, h1, h2⟩)
  | none =>
    rw [e, Bool.or_false] at h
    refine .inr ?_
    unfold keepL rightL at h
    rw [if_pos hc] at h
    cases c : (spotsL nets).findSome? (fun z => keepG x z.f2) with
    | none => rw [c] at h; cases h
    | some v =>
      obtain ⟨z, hz, j, hj, h3, h4⟩ := keep_of c
      rw [← spots_flat (resS t) 0 nets]
      refine List.mem_flatMap.2 ⟨z, hz, List.mem_map.2 ⟨_, List.mem_filter.2 ⟨List.getElem_mem hj, ?_⟩, h3⟩⟩
      rw [h3, e]; rfl
/-- What is free: the addresses of the pools that are not busy. -/
theorem free_eq {t : List Le} (hT : Tab t) {x : Sp} (hx : x ∈ spotsL nets) (now : Int) : freeN a b nets t x.f2 now = (((poolS x.f2).filter (fun y => !busyA a b nets t now y)).length : Int) := by
  unfold freeN
  have e : ((someL nets t).filter (fun y => inS x.f2 y && busyA a b nets t now y)).length = ((poolS x.f2).filter (fun y => busyA a b nets t now y)).length := by
    refine nodup_len ((some_nodup hc hT).filter _) ((pool_nodup hc hx).filter _) (fun y => ?_)
    rw [List.mem_filter, List.mem_filter, Bool.and_eq_true, inS_iff]
    exact ⟨fun h => ⟨h.2.1, h.2.2⟩, fun h => ⟨busy_some hc h.2, h.1, h.2⟩⟩
  have := filter_split (fun y => busyA a b nets t now y) (poolS x.f2)
  rw [e]
  omega
end
theorem one_filter {α : Type} (p : α → Bool) : ∀ l : List α, l.Pairwise (fun x y => ¬ (p x = true ∧ p y = true)) → (l.filter p).length ≤ 1
  | [], _ => by simp
  | x :: l, h => by
    rw [List.pairwise_cons] at h
    rw [List.filter_cons]
    split
    · rename_i c
      rw [List.filter_eq_nil_iff.2 (fun y hy hp => h.1 y hy ⟨c, hp⟩)]
      simp
    · exact one_filter p l h.2
theorem sum_swap {α β : Type} (p : α → β → Bool) (l : List α) : ∀ m : List β, (l.map (fun x => (m.filter (p x)).length)).sum = (m.map (fun y => (l.filter (fun x => p x y)).length)).sum
  | [] => by
    induction l with
    | nil => rfl
    | cons x l ih => simp at ih ⊢; exact ih
  | y :: m => by
    rw [List.map_cons, List.sum_cons, ← sum_swap p l m]
    clear sum_swap
    induction l with
    | nil => rfl
    | cons x l ih =>
      rw [List.map_cons, List.sum_cons, List.map_cons, List.sum_cons, ih, List.filter_cons, List.filter_cons]
      cases p x y <;> simp <;> omega
theorem sum_le_len {α : Type} (f : α → Nat) : ∀ m : List α, (∀ x ∈ m, f x ≤ 1) → (m.map f).sum ≤ m.length
  | [], _ => by simp
  | x :: m, h => by
    have := sum_le_len f m (fun y hy => h y (List.mem_cons_of_mem _ hy))
    have := h x List.mem_cons_self
    rw [List.map_cons, List.sum_cons, List.length_cons]
    omega
theorem held_sum {a b : Int} {nets : List Nt} (hc : checkI a b nets = 0) (t : List Le) (now : Int) :
    ((spotsL nets).map (fun x => (t.filter (fun l => hasS x.f2 l && (holdsB l now || restsB l now))).length)).sum ≤ t.length := by
  obtain ⟨hF, hP, hU⟩ := check_zero hc
  rw [sum_swap (fun (x : Sp) l => hasS x.f2 l && (holdsB l now || restsB l now))]
  refine sum_le_len _ t (fun l _ => one_filter _ _ ?_)
  rw [List.pairwise_iff_getElem]
  rintro i j hi hj hij ⟨h1, h2⟩
  rw [Bool.and_eq_true] at h1 h2
  have := ((hU i j hi hj).1 (decide_eq_false (by omega))).1
  rw [has_meet h1.1 h2.1] at this
  cases this
theorem held_rest (s : Sb) (t : List Le) (now : Int) : heldN s t now + restN s t now = ((t.filter (fun l => hasS s l && (holdsB l now || restsB l now))).length : Int) := by
  unfold heldN restN
  induction t with
  | nil => rfl
  | cons l t ih =>
    have no : holdsB l now = true → restsB l now = false := by
      unfold holdsB restsB
      rw [decide_eq_true_iff, decide_eq_false_iff_not]
      omega
    rw [List.filter_cons, List.filter_cons, List.filter_cons]
    cases hasS s l <;> cases c2 : holdsB l now <;> cases c3 : restsB l now <;> simp [c2, c3] at no ⊢ <;> omega
/-! When an address is free for a client that has none. -/
section
variable {a b : Int} {nets : List Nt} (hc : checkI a b nets = 0)
include hc
theorem poolL_iff {n x : Int} : poolL a b nets n x = true ↔ ∃ y ∈ spotsL nets, y.f0 = n ∧ x ∈ poolS y.f2 := by
  unfold poolL rightL
  rw [if_pos hc]
  constructor
  · intro h
    obtain ⟨y, hy, hn, i, hi, h1, h2⟩ := pool_of h
    exact ⟨y, hy, hn, poolS_mem.2 ⟨_, List.getElem_mem hi, h1, h2⟩⟩
  · rintro ⟨y, hy, hn, hx⟩
    obtain ⟨p, hp, h1⟩ := poolS_mem.1 hx
    cases c : (spotsL nets).findSome? (fun y => if y.f0 = n then poolG x y.f2 else none) with
    | none =>
      have h2 := List.findSome?_eq_none_iff.1 c y hy
      rw [if_pos hn] at h2
      have h3 := List.findSome?_eq_none_iff.1 h2 p hp
      rw [if_pos h1] at h3
      cases h3
    | some v =>
      obtain ⟨z, hz, hv⟩ := List.exists_of_findSome?_eq_some c
      split at hv
      · obtain ⟨q, hq, hv⟩ := List.exists_of_findSome?_eq_some hv
        split at hv
        · rw [← hv]; rfl
        · cases hv
      · cases hv
theorem kept_true {n x : Int} {key : ByteArray} (hp : poolL a b nets n x = true) (h1 : (keepL a b nets x).2 = true) (h2 : (keepL a b nets x).1.toList = key.toList) : (keptL a b nets n key).2 = true := by
  obtain ⟨hF, hP, hU⟩ := check_zero hc
  have hF2 := (spots_all (F := FairS)).2 hF.2.2.2.2.2.2
  have hP2 := (spots_all (F := PlaceS a)).2 hP
  unfold poolL rightL at hp
  rw [if_pos hc] at hp
  obtain ⟨y, hy, hn, i, hi, h3, h4⟩ := pool_of hp
  have pl := (hP2 y hy).1 i hi
  have hI : InS y.f2 x := ⟨by have := pl.1.1; omega, by have := pl.2.1.2; omega⟩
  unfold keepL rightL at h1 h2
  rw [if_pos hc] at h1 h2
  cases c : (spotsL nets).findSome? (fun z => keepG x z.f2) with
  | none => rw [c] at h1; cases h1
  | some v =>
    rw [c] at h1 h2
    obtain ⟨z, hz, j, hj, h5, h6⟩ := keep_of c
    have pl2 := ((hP2 z hz).2.1 j hj).1
    rw [h5] at pl2
    have := has_uniq hU hy hz (in_has (hF2 y hy) hI) (in_has (hF2 z hz) pl2)
    subst this
    subst h6
    have h2 : y.f2.f3[j].f0.toList = key.toList := h2
    unfold keptL rightL
    rw [if_pos hc]
    cases c2 : (spotsL nets).findSome? (fun y => if y.f0 = n then keptG key y.f2 else none) with
    | none =>
      have h7 := List.findSome?_eq_none_iff.1 c2 y hy
      rw [if_pos hn] at h7
      have h8 := List.findSome?_eq_none_iff.1 h7 _ (List.getElem_mem hj)
      rw [if_pos h2] at h8
      cases h8
    | some v =>
      obtain ⟨z, hz, hv⟩ := List.exists_of_findSome?_eq_some c2
      split at hv
      · obtain ⟨q, hq, hv⟩ := List.exists_of_findSome?_eq_some hv
        split at hv
        · rw [← Option.some.inj hv]; rfl
        · cases hv
      · cases hv
end
theorem may_eq {a b : Int} {nets : List Nt} {t : List Le} {n : Int} {key : ByteArray} (hf : fairA a b nets t n key = true) (hk : (keptL a b nets n key).2 = false) (ho : ofL t key = []) (x now : Int) :
    mayA a b nets t n key x now = (poolL a b nets n x && !busyA a b nets t now x) := by
  have hc := (fairA_iff.1 hf).1
  unfold mayA mineA otherA
  rw [hf, hk, ho, Bool.true_and, Bool.false_and, Bool.false_or, List.any_nil, Bool.not_false, Bool.true_and]
  unfold poolA
  cases hp : poolL a b nets n x with
  | false => rfl
  | true =>
    rw [Bool.true_and, Bool.true_and]
    unfold busyA
    cases h1 : (keepL a b nets x).2 with
    | true =>
      have : ¬ (keepL a b nets x).1.toList = key.toList := fun h2 => by
        rw [kept_true hc hp h1 h2] at hk
        cases hk
      rw [decide_eq_false this]
      rfl
    | false =>
      rw [Bool.not_false, Bool.true_or, Bool.true_and, Bool.false_or]
      unfold freeB
      cases e : getL t x with
      | none => rfl
      | some l =>
        have hm := (getL_mem e).1
        have : ¬ l.f3.toList = key.toList := fun h2 => by
          have := List.filter_eq_nil_iff.1 ho l hm
          simp [h2] at this
        dsimp only
        rw [decide_eq_false this]
        unfold countsB
        cases holdsB l now <;> cases restsB l now <;> rfl
theorem choose_iff {a b : Int} {nets : List Nt} {t : List Le} {n : Int} {key : ByteArray} (hf : fairA a b nets t n key = true) (hk : (keptL a b nets n key).2 = false) (ho : ofL t key = []) (now : Int) :
    (ansA (chooseA a b nets t n key 0 now)).2 = true ↔ ∃ x, poolL a b nets n x = true ∧ busyA a b nets t now x = false := by
  rw [ans_two]
  constructor
  · rintro ⟨x, h, _⟩
    have := (choose_some h).1
    rw [may_eq hf hk ho, Bool.and_eq_true, Bool.not_eq_true'] at this
    exact ⟨x, this⟩
  · rintro ⟨x, h1, h2⟩
    obtain ⟨y, hy⟩ := some_of_may (a := a) (b := b) (nets := nets) (t := t) (n := n) (key := key) (x := x) (now := now) (by rw [may_eq hf hk ho, h1, h2]; rfl) 0
    exact ⟨y, hy, by rw [hy]; rfl⟩
theorem any_free {a b : Int} {nets : List Nt} (hc : checkI a b nets = 0) {t : List Le} (hT : Tab t) (n now : Int) :
    (countL a b nets t now).1.any (fun s => decide (s.f0 = n ∧ s.f6 > 0)) = true ↔ ∃ x, poolL a b nets n x = true ∧ busyA a b nets t now x = false := by
  unfold countL
  rw [if_pos hc, if_pos hT, List.any_eq_true]
  constructor
  · rintro ⟨s, hs, h⟩
    obtain ⟨y, hy, rfl⟩ := List.mem_map.1 hs
    obtain ⟨h1, h2⟩ := of_decide_eq_true h
    have h2 : freeN a b nets t y.f2 now > 0 := h2
    rw [free_eq hc hT hy] at h2
    obtain ⟨x, hx⟩ := List.exists_mem_of_length_pos (l := (poolS y.f2).filter (fun y => !busyA a b nets t now y)) (by omega)
    rw [List.mem_filter, Bool.not_eq_true'] at hx
    exact ⟨x, (poolL_iff hc).2 ⟨y, hy, h1, hx.1⟩, hx.2⟩
  · rintro ⟨x, h1, h2⟩
    obtain ⟨y, hy, hn, hx⟩ := (poolL_iff hc).1 h1
    refine ⟨_, List.mem_map.2 ⟨y, hy, rfl⟩, decide_eq_true ⟨hn, ?_⟩⟩
    show freeN a b nets t y.f2 now > 0
    rw [free_eq hc hT hy]
    have : x ∈ (poolS y.f2).filter (fun y => !busyA a b nets t now y) := List.mem_filter.2 ⟨hx, by rw [h2]; rfl⟩
    have := List.length_pos_of_mem this
    omega
/-- How long to wait, and what is so then. -/
theorem wait_spec {a b : Int} {nets : List Nt} {t : List Le} {n : Int} {key : ByteArray} (hf : fairA a b nets t n key = true) {now : Int} (h0 : 0 ≤ now) :
    ((waitA a b nets t n now).2 = false → (waitA a b nets t n now).1 = 0 ∧ ¬ ∃ x, poolL a b nets n x = true ∧ busyA a b nets t now x = false) ∧
    ((waitA a b nets t n now).2 = true → 0 ≤ (waitA a b nets t n now).1 ∧ now + (waitA a b nets t n now).1 ≤ 1125899906842624 + now ∧ (∃ x, poolL a b nets n x = true ∧ busyA a b nets t (now + (waitA a b nets t n now).1) x = false) ∧
      ((waitA a b nets t n now).1 > 0 → ¬ ∃ x, poolL a b nets n x = true ∧ busyA a b nets t (now + (waitA a b nets t n now).1 - 1) x = false)) := by
  obtain ⟨hc, hT, _, hn⟩ := fairA_iff.1 hf
  have hR : (countL a b nets t now).2 = 0 := by unfold countL; rw [if_pos hc, if_pos hT]
  have hA := any_free hc hT n now
  unfold waitA
  rw [if_pos ⟨hR, hn⟩]
  by_cases c : (countL a b nets t now).1.any (fun s => decide (s.f0 = n ∧ s.f6 > 0)) = true
  · rw [if_pos c]
    refine ⟨(fun h => by cases h), fun _ => ⟨Int.le_refl _, by dsimp only; omega, ?_, fun h => by dsimp only at h; omega⟩⟩
    rw [show now + ((0 : Int), true).1 = now by dsimp only; omega]
    exact hA.1 c
  · rw [if_neg c]
    have hno : ¬ ∃ x, poolL a b nets n x = true ∧ busyA a b nets t now x = false := fun h => c (hA.2 h)
    obtain ⟨p, q, _⟩ := min_spec (candA a b nets n now) t ⟨0, 0, 0, ⟨#[]⟩⟩ (fun l hl => by have := (leaseB_of (hT.2.1 l hl)).2.2.1; omega)
    rw [show t.foldl (minStep (candA a b nets n now)) ⟨0, 0, 0, ⟨#[]⟩⟩ = firstA a b nets t n now from rfl] at p q
    generalize firstA a b nets t n now = f at *
    by_cases c2 : f.f1 = 0
    · rw [if_pos c2]
      exact ⟨fun _ => ⟨rfl, hno⟩, (fun h => by cases h)⟩
    · rw [if_neg c2]
      refine ⟨(fun h => by cases h), fun _ => ?_⟩
      dsimp only
      rcases p with rfl | ⟨hm, hcd, _⟩
      · exact absurd rfl c2
      · have hb := leaseB_of (hT.2.1 f hm)
        unfold candA at hcd
        rw [Bool.and_eq_true, Bool.and_eq_true, Bool.not_eq_true'] at hcd
        obtain ⟨hk, hcn, hp⟩ := hcd
        have hlt := ((counts_iff f now hb.2.2.1 hb.2.2.2.1).1 hcn).2
        have e : untilL t f.f0 now = f.f2 - now := by
          unfold untilL
          rw [getL_some hT.2.2 hm]
          dsimp only
          rw [if_pos hcn]
          unfold wrap64
          omega
        rw [e, show now + (f.f2 - now) = f.f2 by omega]
        refine ⟨by omega, by omega, ⟨f.f0, hp, ?_⟩, fun _ => ?_⟩
        · unfold busyA
          rw [hk, getL_some hT.2.2 hm, Bool.false_or]
          dsimp only
          cases c3 : countsB f f.f2 with
          | false => rfl
          | true =>
            have := ((counts_iff f f.f2 hb.2.2.1 hb.2.2.2.1).1 c3).2
            omega
        · rintro ⟨x, h1, h2⟩
          refine hno ⟨x, h1, ?_⟩
          unfold busyA at h2 ⊢
          rw [Bool.or_eq_false_iff] at h2
          rw [h2.1, Bool.false_or]
          cases e2 : getL t x with
          | none => rfl
          | some l =>
            obtain ⟨hl, hx⟩ := getL_mem e2
            have hbl := leaseB_of (hT.2.1 l hl)
            dsimp only
            cases c4 : countsB l now with
            | false => rfl
            | true =>
              have hq := (q l hl (by unfold candA; rw [hx, h2.1, c4, h1]; rfl)).2
              have h3 := h2.2
              rw [e2] at h3
              dsimp only at h3
              have h5 := (counts_iff l now hbl.2.2.1 hbl.2.2.2.1).1 c4
              rw [(counts_iff l (f.f2 - 1) hbl.2.2.1 hbl.2.2.2.1).2 ⟨h5.1, by omega⟩] at h3
              cases h3
end Go.Proofs.Ytopbcamlagdieaa.PStats
set_option linter.unusedVariables false
set_option linter.unusedSimpArgs false
namespace Go.Proofs.Ytopbcamlagdieaa.PStats
open Go.RowKit Go.Proofs.YtopbcamlagdieaaW.PrintWords Go.Proofs.YtopbcamlagdieaaW.PrintLast Go.Proofs.YtopbcamlagdieaaW.PrintMore

/-! ### boarderlaw13.Great -/
theorem boarderlaw13_Great_l2 (a b : Int) (nets : List Nt) (m j : Nat) (hj : j ≤ 1000) (s : Sb) (h20 : s.f3.length ≤ 20) {r : Bool} (h1 : (∀ r ∈ s.f3, r.f0.size ≤ 1000) → Ev (fun k => boarderlaw13_Great.l1 k (m : Int) ((j + 1 : Nat) : Int) a b nets) r) (h2 : (¬ ∀ r ∈ s.f3, r.f0.size ≤ 1000) → r = true) :
    Ev (fun k => boarderlaw13_Great.l2 k (m : Int) (j : Int) 0 a b nets s.f0 s.f1 s.f2 s.f3 s.f4 s.f5 s.f6) r := by
  have hw : wrap64 ((j : Int) + 1) = ((j + 1 : Nat) : Int) := by unfold wrap64; omega
  refine loopC (n := s.f3.length) (L := fun k i => boarderlaw13_Great.l2 k (m : Int) (j : Int) i a b nets s.f0 s.f1 s.f2 s.f3 s.f4 s.f5 s.f6) (fun i => ∃ h : i < s.f3.length, s.f3[i].f0.size ≤ 1000) true (fun i hi hp r h3 => ?_) (fun i hi hp => ?_) (fun h3 => ?_) (fun h3 => ?_)
  · obtain ⟨_, hp⟩ := hp
    refine Ev.step (fun k => ?_) h3
    show boarderlaw13_Great.l2 (k + 1) _ _ _ _ _ _ _ _ _ _ _ _ _ = _
    rw [boarderlaw13_Great.l2, if_pos (by omega), if_pos (by omega), show rd_T65 s.f3 (i : Int) = s.f3[i] from rd_get hi, if_neg (by omega), wrap_next hi (by omega)]
  · have h4 : ¬ s.f3[i].f0.size ≤ 1000 := fun h => hp ⟨hi, h⟩
    refine Ev.step (f := fun _ => some true) (fun k => ?_) Ev.some'
    show boarderlaw13_Great.l2 (k + 1) _ _ _ _ _ _ _ _ _ _ _ _ _ = _
    rw [boarderlaw13_Great.l2, if_pos (by omega), if_pos (by omega), show rd_T65 s.f3 (i : Int) = s.f3[i] from rd_get hi, if_pos (by omega)]
  · refine Ev.step (fun k => ?_) (h1 (fun r hr => by obtain ⟨i, hi, rfl⟩ := List.mem_iff_getElem.1 hr; exact (h3 i hi).2))
    show boarderlaw13_Great.l2 (k + 1) _ _ _ _ _ _ _ _ _ _ _ _ _ = _
    rw [boarderlaw13_Great.l2, if_neg (by omega), hw]
  · obtain ⟨i, hi, hp⟩ := h3
    exact h2 (fun h => hp ⟨hi, h _ (List.getElem_mem hi)⟩)
theorem boarderlaw13_Great_j2 (a b : Int) (nets : List Nt) (m j : Nat) (hj : j ≤ 1000) (s : Sb) (x : Bool) {r : Bool} (hx : x = true → ¬ SmS s) (hx2 : x = false → s.f2.length ≤ 20 ∧ s.f3.length ≤ 20) (h1 : SmS s → Ev (fun k => boarderlaw13_Great.l1 k (m : Int) ((j + 1 : Nat) : Int) a b nets) r) (h2 : ¬ SmS s → r = true) :
    Ev (fun k => boarderlaw13_Great.j2 k (m : Int) (j : Int) x a b nets s.f0 s.f1 s.f2 s.f3 s.f4 s.f5 s.f6) r := by
  cases x with
  | true =>
    rw [h2 (hx rfl)]
    exact Ev.step (f := fun _ => some true) (fun k => by show boarderlaw13_Great.j2 (k + 1) _ _ _ _ _ _ _ _ _ _ _ _ _ = _; rw [boarderlaw13_Great.j2, if_pos rfl]) Ev.some'
  | false =>
    obtain ⟨e1, e2⟩ := hx2 rfl
    exact Ev.step (fun k => by show boarderlaw13_Great.j2 (k + 1) _ _ _ _ _ _ _ _ _ _ _ _ _ = _; rw [boarderlaw13_Great.j2, if_neg (by simp)]) (boarderlaw13_Great_l2 a b nets m j hj s e2 (fun h => h1 ⟨e1, e2, h⟩) (fun h => h2 (fun h3 => h h3.2.2)))
theorem boarderlaw13_Great_l1 (a b : Int) (nets : List Nt) (m : Nat) (hm : m < nets.length) (hn : nets.length ≤ 10) (h10 : nets[m].f0.length ≤ 10) {r : Bool} (h1 : (∀ s ∈ nets[m].f0, SmS s) → Ev (fun k => boarderlaw13_Great.l0 k ((m + 1 : Nat) : Int) a b nets) r) (h2 : (¬ ∀ s ∈ nets[m].f0, SmS s) → r = true) :
    Ev (fun k => boarderlaw13_Great.l1 k (m : Int) 0 a b nets) r := by
  have eN : rd_T56 nets (m : Int) = nets[m] := rd_get hm
  have E : ∀ i (hi : i < nets[m].f0.length) (r : Bool), (SmS nets[m].f0[i] → Ev (fun k => boarderlaw13_Great.l1 k (m : Int) ((i + 1 : Nat) : Int) a b nets) r) → (¬ SmS nets[m].f0[i] → r = true) → Ev (fun k => boarderlaw13_Great.l1 k (m : Int) (i : Int) a b nets) r := by
    intro i hi r h3 h4
    refine Ev.step (f := fun k => if ((nets[m].f0[i].f2).length : Int) > 20 then boarderlaw13_Great.j2 k (m : Int) (i : Int) true a b nets nets[m].f0[i].f0 nets[m].f0[i].f1 nets[m].f0[i].f2 nets[m].f0[i].f3 nets[m].f0[i].f4 nets[m].f0[i].f5 nets[m].f0[i].f6 else boarderlaw13_Great.j2 k (m : Int) (i : Int) (decide (((nets[m].f0[i].f3).length : Int) > 20)) a b nets nets[m].f0[i].f0 nets[m].f0[i].f1 nets[m].f0[i].f2 nets[m].f0[i].f3 nets[m].f0[i].f4 nets[m].f0[i].f5 nets[m].f0[i].f6) (fun k => ?_) ?_
    · show boarderlaw13_Great.l1 (k + 1) _ _ _ _ _ = _
      rw [boarderlaw13_Great.l1, if_pos (by omega), if_pos (by omega), eN, if_pos (by omega), if_pos (by omega), show rd_T60 nets[m].f0 (i : Int) = nets[m].f0[i] from rd_get hi]
    · by_cases c : ((nets[m].f0[i].f2).length : Int) > 20
      · exact Ev.pos c (boarderlaw13_Great_j2 a b nets m i (by omega) nets[m].f0[i] true (fun _ h => by have := h.1; omega) (fun h => by cases h) h3 h4)
      · refine Ev.neg c (boarderlaw13_Great_j2 a b nets m i (by omega) nets[m].f0[i] _ (fun h h5 => ?_) (fun h => ?_) h3 h4)
        · have := of_decide_eq_true h; have := h5.2.1; omega
        · have := of_decide_eq_false h; omega
  refine loopC (n := nets[m].f0.length) (L := fun k i => boarderlaw13_Great.l1 k (m : Int) i a b nets) (fun i => ∃ h : i < nets[m].f0.length, SmS nets[m].f0[i]) true (fun i hi hp r h3 => ?_) (fun i hi hp => ?_) (fun h3 => ?_) (fun h3 => ?_)
  · exact E i hi r (fun _ => h3) (fun h => absurd hp.2 h)
  · exact E i hi true (fun h => absurd ⟨hi, h⟩ hp) (fun _ => rfl)
  · refine Ev.step (fun k => ?_) (h1 (fun s hs => by obtain ⟨i, hi, rfl⟩ := List.mem_iff_getElem.1 hs; exact (h3 i hi).2))
    show boarderlaw13_Great.l1 (k + 1) _ _ _ _ _ = _
    rw [boarderlaw13_Great.l1, if_pos (by omega), if_pos (by omega), eN, if_neg (by omega), wrap_next hm (by omega)]
  · obtain ⟨i, hi, hp⟩ := h3
    exact h2 (fun h => hp ⟨hi, h _ (List.getElem_mem hi)⟩)
open Classical in
theorem boarderlaw13_Great_s (a b : Int) (nets : List Nt) : Ev (fun k => boarderlaw13_Great.f k a b nets) (decide (¬ Sm nets)) := by
  unfold boarderlaw13_Great.f
  by_cases c : (nets.length : Int) > 10
  · rw [show decide (¬ Sm nets) = true from decide_eq_true_iff.2 (fun h => by have := h.1; omega)]
    exact Ev.pos c Ev.some'
  · refine Ev.neg c ?_
    have hn : nets.length ≤ 10 := by omega
    have E : ∀ i (hi : i < nets.length) (r : Bool), ((nets[i].f0.length ≤ 10 ∧ ∀ s ∈ nets[i].f0, SmS s) → Ev (fun k => boarderlaw13_Great.l0 k ((i + 1 : Nat) : Int) a b nets) r) → ((¬ (nets[i].f0.length ≤ 10 ∧ ∀ s ∈ nets[i].f0, SmS s)) → r = true) → Ev (fun k => boarderlaw13_Great.l0 k (i : Int) a b nets) r := by
      intro i hi r h3 h4
      refine Ev.step (f := fun k => if (nets[i].f0.length : Int) > 10 then some true else boarderlaw13_Great.l1 k (i : Int) 0 a b nets) (fun k => ?_) ?_
      · show boarderlaw13_Great.l0 (k + 1) _ _ _ _ = _
        rw [boarderlaw13_Great.l0, if_pos (by omega), if_pos (by omega), show rd_T56 nets (i : Int) = nets[i] from rd_get hi]
      · by_cases c1 : (nets[i].f0.length : Int) > 10
        · rw [h4 (fun h => by have := h.1; omega)]; exact Ev.pos c1 Ev.some'
        · exact Ev.neg c1 (boarderlaw13_Great_l1 a b nets i hi hn (by omega) (fun h => h3 ⟨by omega, h⟩) (fun h => h4 (fun h5 => h h5.2)))
    refine loopC (n := nets.length) (L := fun k i => boarderlaw13_Great.l0 k i a b nets) (fun i => ∃ h : i < nets.length, nets[i].f0.length ≤ 10 ∧ ∀ s ∈ nets[i].f0, SmS s) true (fun i hi hp r h3 => ?_) (fun i hi hp => ?_) (fun h3 => ?_) (fun h3 => ?_)
    · exact E i hi r (fun _ => h3) (fun h => absurd hp.2 h)
    · exact E i hi true (fun h => absurd ⟨hi, h⟩ hp) (fun _ => rfl)
    · rw [show decide (¬ Sm nets) = false from decide_eq_false_iff_not.2 (fun h => h ⟨hn, fun n hn' => by obtain ⟨i, hi, rfl⟩ := List.mem_iff_getElem.1 hn'; exact (h3 i hi).2⟩)]
      refine Ev.step (f := fun _ => some false) (fun k => ?_) Ev.some'
      show boarderlaw13_Great.l0 (k + 1) _ _ _ _ = _
      rw [boarderlaw13_Great.l0, if_neg (by omega)]
    · obtain ⟨i, hi, hp⟩ := h3
      exact decide_eq_true_iff.2 (fun h => hp ⟨hi, h.2 _ (List.getElem_mem hi)⟩)

end Go.Proofs.Ytopbcamlagdieaa.PStats
set_option linter.unusedVariables false
set_option linter.unusedSimpArgs false
namespace Go.Proofs.Ytopbcamlagdieaa.PStats
open Go.RowKit Go.Proofs.YtopbcamlagdieaaW.PrintWords Go.Proofs.YtopbcamlagdieaaW.PrintLast Go.Proofs.YtopbcamlagdieaaW.PrintMore

/-! ### boarderlaw12.Great -/
/-- Is a table more than is looked at? -/
def greatB (t : List Le) : Bool := decide (∃ l ∈ t, 1000 < l.f3.size) || decide (200 < t.length)
open Classical in
theorem boarderlaw12_Great_l (t : List Le) (ht : t.length ≤ maxLen) (d : Nat) : ∀ (i : Nat) (k : Nat), i + d = t.length → d < k →
    boarderlaw12_Great.l0 k t i = some (decide (∃ j, i ≤ j ∧ j < t.length ∧ 1000 < (atL t j).f3.size) || decide (200 < t.length)) := by
  simp only [maxLen] at ht
  induction d with
  | zero =>
    intro i k hi hk
    obtain ⟨k, rfl⟩ : ∃ m, k = m + 1 := ⟨k - 1, by omega⟩
    rw [boarderlaw12_Great.l0, if_neg (by omega), decide_eq_false (p := ∃ j, i ≤ j ∧ j < t.length ∧ 1000 < (atL t j).f3.size) (by rintro ⟨j, h1, h2, _⟩; omega), Bool.false_or]
    congr 1; exact decide_eq_decide.2 ⟨fun h => by omega, fun h => by omega⟩
  | succ d ih =>
    intro i k hi hk
    obtain ⟨k, rfl⟩ : ∃ m, k = m + 1 := ⟨k - 1, by omega⟩
    rw [boarderlaw12_Great.l0, if_pos (by omega), if_pos (by omega), show rd_T68 t (i : Int) = atL t i from rfl]
    by_cases h : ((atL t i).f3.size : Int) > 1000
    · rw [if_pos h, decide_eq_true (p := ∃ j, i ≤ j ∧ j < t.length ∧ 1000 < (atL t j).f3.size) ⟨i, by omega, by omega, by omega⟩, Bool.true_or]
    · rw [if_neg h, show wrap64 ((i : Int) + 1) = ((i + 1 : Nat) : Int) from by unfold wrap64; omega, ih (i + 1) k (by omega) (by omega)]
      congr 2
      refine decide_eq_decide.2 ⟨?_, ?_⟩
      · rintro ⟨j, h1, h2, h3⟩; exact ⟨j, by omega, h2, h3⟩
      · rintro ⟨j, h1, h2, h3⟩
        rcases Nat.eq_or_lt_of_le h1 with c | c
        · subst c; omega
        · exact ⟨j, by omega, h2, h3⟩
theorem boarderlaw12_Great_s (t : List Le) (ht : t.length ≤ maxLen) (k : Nat) (hk : t.length < k) : boarderlaw12_Great.f k t = some (greatB t) := by
  have e := boarderlaw12_Great_l t ht t.length 0 k (by omega) hk
  unfold boarderlaw12_Great.f greatB
  rw [show boarderlaw12_Great.l0 k t 0 = boarderlaw12_Great.l0 k t ((0 : Nat) : Int) from rfl, e]
  congr 2
  refine decide_eq_decide.2 ⟨?_, ?_⟩
  · rintro ⟨j, _, h2, h3⟩; exact ⟨_, atL_mem h2, h3⟩
  · rintro ⟨l, hl, h⟩
    obtain ⟨j, hj, rfl⟩ := mem_atL hl
    exact ⟨j, by omega, hj, h⟩
/-- What isn't: at most 200 leases, of keys of at most 1000 bytes. -/
theorem greatB_not {t : List Le} (h : greatB t = false) : t.length ≤ 200 ∧ ∀ l ∈ t, l.f3.size ≤ 1000 := by
  unfold greatB at h
  rw [Bool.or_eq_false_iff, decide_eq_false_iff_not, decide_eq_false_iff_not] at h
  exact ⟨by omega, fun l hl => by
    rcases Nat.lt_or_ge 1000 l.f3.size with c | c
    · exact absurd ⟨l, hl, c⟩ h.1
    · exact c⟩
theorem small_of {t : List Le} (h : greatB t = false) : Small t := by
  obtain ⟨h1, h2⟩ := greatB_not h
  exact ⟨by omega, fun l hl => by have := h2 l hl; simp only [maxLen]; omega⟩
theorem goodL_len (t : List Le) : (goodL t).length ≤ t.length := by unfold goodL; split <;> simp

end Go.Proofs.Ytopbcamlagdieaa.PStats
set_option linter.unusedVariables false
set_option linter.unusedSimpArgs false
namespace Go.Proofs.Ytopbcamlagdieaa.PStats
open Go.RowKit Go.Proofs.YtopbcamlagdieaaW.PrintWords Go.Proofs.YtopbcamlagdieaaW.PrintLast Go.Proofs.YtopbcamlagdieaaW.PrintMore

/-! ### boarderlaw26.great -/
open Classical in
theorem boarderlaw26_great_s (a b : Int) (nets : List Nt) (t : List Le) (ht : t.length ≤ maxLen) : Ev (fun k => boarderlaw26_great.f k a b nets t) (decide (¬ Sm nets) || greatB t) := by
  refine Ev.bind (boarderlaw13_Great_s a b nets) (Ev.ite' (fun c => Ev.ret (by rw [c]; rfl)) (fun c => ?_))
  refine Ev.bind (a := greatB t) ⟨t.length + 1, fun k hk => boarderlaw12_Great_s t ht k (by omega)⟩ (Ev.ret ?_)
  simp only [Bool.not_eq_true] at c
  rw [c, Bool.false_or]

end Go.Proofs.Ytopbcamlagdieaa.PStats
set_option linter.unusedVariables false
set_option linter.unusedSimpArgs false
namespace Go.Proofs.Ytopbcamlagdieaa.PStats
open Go.RowKit Go.Proofs.YtopbcamlagdieaaW.PrintWords Go.Proofs.YtopbcamlagdieaaW.PrintLast Go.Proofs.YtopbcamlagdieaaW.PrintMore

/-! ### boarderlaw26.knows -/
theorem boarderlaw26_knows_s : Ev (fun k => boarderlaw26_knows.f k) true := Ev.of (k := 400) boarderlaw26_knows.mono (by kernel_rfl)
theorem knows26 : Ev (fun k => (boarderlaw26_knows.f k).bind fun t => some t) true := Ev.bind boarderlaw26_knows_s (Ev.ret rfl)
/-- What is great is told by the examples alone. -/
theorem great26 {a b : Int} {nets : List Nt} {t : List Le} (ht : t.length ≤ maxLen) {F : Nat → Option Bool} (h : Sm nets → Small t → Ev F true) :
    Ev (fun k => (boarderlaw26_great.f k a b nets t).bind fun t1 => if t1 = true then ((boarderlaw26_knows.f k).bind fun t2 => some t2) else F k) true := by
  refine Ev.bind (boarderlaw26_great_s a b nets t ht) (Ev.ite' (fun _ => knows26) (fun c => ?_))
  rw [Bool.not_eq_true, Bool.or_eq_false_iff, decide_eq_false_iff_not, Classical.not_not] at c
  exact h c.1 (small_of c.2)

end Go.Proofs.Ytopbcamlagdieaa.PStats
set_option linter.unusedVariables false
set_option linter.unusedSimpArgs false
namespace Go.Proofs.Ytopbcamlagdieaa.PStats
open Go.RowKit Go.Proofs.YtopbcamlagdieaaW.PrintWords Go.Proofs.YtopbcamlagdieaaW.PrintLast Go.Proofs.YtopbcamlagdieaaW.PrintMore

/-! ### stats.add -/
def sumW (l : List Int) (x : Int) : Int := l.foldl (fun n x => wrap64 (n + x)) x
theorem stats_add_l0 (l : List Int) (hl : l.length ≤ 1000) (x : Int) : Ev (fun k => stats_add.l0 k l x 0) (sumW l x) := by
  unfold sumW
  refine loopL l (fun n x => wrap64 (n + x)) (fun _ _ => True) (L := fun k i s => stats_add.l0 k l s i) trivial (fun _ _ _ _ => trivial) (fun i hi s _ h3 => ?_) (fun _ => ?_)
  · have eT : rdOf 0 l (i : Int) = l[i] := rd_get hi
    exact Ev.step (fun k => by show stats_add.l0 (k + 1) _ _ _ = _; rw [stats_add.l0, if_pos (by omega), if_pos (by omega), eT, wrap_next hi (by omega)]) h3
  · exact Ev.step (fun k => by show stats_add.l0 (k + 1) _ _ _ = _; rw [stats_add.l0, if_neg (by omega)]) Ev.some'
theorem stats_add_s (l : List Int) (hl : l.length ≤ 1000) (a b c d e f g : Int) : Ev (fun k => stats_add.f k l a b c d e f g) (sumW l c) := stats_add_l0 l hl c

end Go.Proofs.Ytopbcamlagdieaa.PStats
set_option linter.unusedVariables false
set_option linter.unusedSimpArgs false
namespace Go.Proofs.Ytopbcamlagdieaa.PStats
open Go.RowKit Go.Proofs.YtopbcamlagdieaaW.PrintWords Go.Proofs.YtopbcamlagdieaaW.PrintLast Go.Proofs.YtopbcamlagdieaaW.PrintMore

/-! ### stats.Sum -/
theorem stats_add_m1_s (l : List Int) (hl : l.length ≤ 1000) (a b c d e f g : Int) : Ev (fun k => stats_add_m1.f k l a b c d e f g) (sumW l d) := by
  unfold sumW
  refine loopL l (fun n x => wrap64 (n + x)) (fun _ _ => True) (L := fun k i s => stats_add_m1.l0 k l s i) trivial (fun _ _ _ _ => trivial) (fun i hi s _ h3 => ?_) (fun _ => ?_)
  · have eT : rdOf 0 l (i : Int) = l[i] := rd_get hi
    exact Ev.step (fun k => by show stats_add_m1.l0 (k + 1) _ _ _ = _; rw [stats_add_m1.l0, if_pos (by omega), if_pos (by omega), eT, wrap_next hi (by omega)]) h3
  · exact Ev.step (fun k => by show stats_add_m1.l0 (k + 1) _ _ _ = _; rw [stats_add_m1.l0, if_neg (by omega)]) Ev.some'
theorem stats_add_m2_s (l : List Int) (hl : l.length ≤ 1000) (a b c d e f g : Int) : Ev (fun k => stats_add_m2.f k l a b c d e f g) (sumW l e) := by
  unfold sumW
  refine loopL l (fun n x => wrap64 (n + x)) (fun _ _ => True) (L := fun k i s => stats_add_m2.l0 k l s i) trivial (fun _ _ _ _ => trivial) (fun i hi s _ h3 => ?_) (fun _ => ?_)
  · have eT : rdOf 0 l (i : Int) = l[i] := rd_get hi
    exact Ev.step (fun k => by show stats_add_m2.l0 (k + 1) _ _ _ = _; rw [stats_add_m2.l0, if_pos (by omega), if_pos (by omega), eT, wrap_next hi (by omega)]) h3
  · exact Ev.step (fun k => by show stats_add_m2.l0 (k + 1) _ _ _ = _; rw [stats_add_m2.l0, if_neg (by omega)]) Ev.some'
theorem stats_add_m3_s (l : List Int) (hl : l.length ≤ 1000) (a b c d e f g : Int) : Ev (fun k => stats_add_m3.f k l a b c d e f g) (sumW l f) := by
  unfold sumW
  refine loopL l (fun n x => wrap64 (n + x)) (fun _ _ => True) (L := fun k i s => stats_add_m3.l0 k l s i) trivial (fun _ _ _ _ => trivial) (fun i hi s _ h3 => ?_) (fun _ => ?_)
  · have eT : rdOf 0 l (i : Int) = l[i] := rd_get hi
    exact Ev.step (fun k => by show stats_add_m3.l0 (k + 1) _ _ _ = _; rw [stats_add_m3.l0, if_pos (by omega), if_pos (by omega), eT, wrap_next hi (by omega)]) h3
  · exact Ev.step (fun k => by show stats_add_m3.l0 (k + 1) _ _ _ = _; rw [stats_add_m3.l0, if_neg (by omega)]) Ev.some'
theorem stats_add_m4_s (l : List Int) (hl : l.length ≤ 1000) (a b c d e f g : Int) : Ev (fun k => stats_add_m4.f k l a b c d e f g) (sumW l g) := by
  unfold sumW
  refine loopL l (fun n x => wrap64 (n + x)) (fun _ _ => True) (L := fun k i s => stats_add_m4.l0 k l s i) trivial (fun _ _ _ _ => trivial) (fun i hi s _ h3 => ?_) (fun _ => ?_)
  · have eT : rdOf 0 l (i : Int) = l[i] := rd_get hi
    exact Ev.step (fun k => by show stats_add_m4.l0 (k + 1) _ _ _ = _; rw [stats_add_m4.l0, if_pos (by omega), if_pos (by omega), eT, wrap_next hi (by omega)]) h3
  · exact Ev.step (fun k => by show stats_add_m4.l0 (k + 1) _ _ _ = _; rw [stats_add_m4.l0, if_neg (by omega)]) Ev.some'
theorem stats_Sum_j0 (l : List St) (i : Nat) (hi : i < l.length) (hl : l.length ≤ 10000) (v2 v3 v4 v5 v6 v7 v9 : Int) {r : Int × Int × Int × Int × Int × Int × Int}
    (h : Ev (fun k => stats_Sum.l0 k l v9 (wrap64 (v2 + 1)) (wrap64 (v3 + l[i].f2)) (wrap64 (v4 + l[i].f3)) (wrap64 (v5 + l[i].f4)) (wrap64 (v6 + l[i].f5)) (wrap64 (v7 + l[i].f6)) ((i + 1 : Nat) : Int)) r) :
    Ev (fun k => stats_Sum.j0 k l (i : Int) v2 v3 v4 v5 v6 v7 v9) r := by
  have eT : rd_T25 l (i : Int) = l[i] := rd_get hi
  refine Ev.step (fun k => by show stats_Sum.j0 (k + 1) _ _ _ _ _ _ _ _ _ = _; rw [stats_Sum.j0, eT, wrap_next hi (by omega)]) ?_
  exact Ev.bind (stats_add_s _ (by simp) _ _ _ _ _ _ _) (Ev.bind (stats_add_m1_s _ (by simp) _ _ _ _ _ _ _) (Ev.bind (stats_add_m2_s _ (by simp) _ _ _ _ _ _ _) (Ev.bind (stats_add_m3_s _ (by simp) _ _ _ _ _ _ _) (Ev.bind (stats_add_m4_s _ (by simp) _ _ _ _ _ _ _) h))))
theorem sum_take (g : St → Int) (l : List St) (i : Nat) (hi : i < l.length) : wrap64 (wrap64 ((l.take i).map g).sum + g l[i]) = wrap64 ((l.take (i + 1)).map g).sum := by
  rw [wrap_wrap, List.take_succ_eq_append_getElem hi, List.map_append, List.sum_append, List.map_cons, List.map_nil]
  simp
theorem stats_Sum_s (l : List St) (hl : l.length ≤ 10000) : Ev (fun k => stats_Sum.f k l) (sumA l) := by
  have H : ∀ d i, i + d = l.length → Ev (fun k => stats_Sum.l0 k l (netN none (l.take i) : Int) (i : Int) (wrap64 ((l.take i).map (·.f2)).sum) (wrap64 ((l.take i).map (·.f3)).sum) (wrap64 ((l.take i).map (·.f4)).sum) (wrap64 ((l.take i).map (·.f5)).sum) (wrap64 ((l.take i).map (·.f6)).sum) (i : Int)) (sumA l) := by
    intro d
    induction d with
    | zero =>
      intro i hi
      obtain rfl : i = l.length := by omega
      refine Ev.step (fun k => by rw [stats_Sum.l0, if_neg (by omega)]) (Ev.ret ?_)
      rw [List.take_length]; rfl
    | succ d ih =>
      intro i hi
      have hi2 : i < l.length := by omega
      have h3 := ih (i + 1) (by omega)
      rw [← sum_take _ l i hi2, ← sum_take _ l i hi2, ← sum_take _ l i hi2, ← sum_take _ l i hi2, ← sum_take _ l i hi2] at h3
      have hN : netN none (l.take (i + 1)) = netN none (l.take i) + (if i = 0 then 1 else if (l.getD (i - 1) l[i]).f0 = l[i].f0 then 0 else 1) := by
        rw [List.take_succ_eq_append_getElem hi2, netN_snoc]
        congr 1
        cases i with
        | zero => simp
        | succ i => simp [List.getLast?_take, List.getD_eq_getElem?_getD, show i < l.length by omega]
      have hle : ∀ m : List St, ∀ p, netN p m ≤ m.length := by
        intro m
        induction m with
        | nil => intro p; simp [netN]
        | cons x m ih => intro p; rw [netN, List.length_cons]; have := ih (some x.f0); split <;> omega
      have hle := hle (l.take i) none
      rw [List.length_take] at hle
      have e1 : wrap64 ((i : Int) + 1) = ((i + 1 : Nat) : Int) := wrap_next hi2 (by omega)
      have e2 : wrap64 ((netN none (l.take i) : Int) + 1) = ((netN none (l.take i) + 1 : Nat) : Int) := by unfold wrap64; omega
      have eT : rd_T25 l (i : Int) = l[i] := rd_get hi2
      rw [hN] at h3
      refine Ev.step (fun k => by rw [stats_Sum.l0, if_pos (by omega), if_pos (by omega), eT, e2]) ?_
      by_cases c : i = 0
      · rw [if_pos c] at h3
        refine Ev.pos (by omega) (stats_Sum_j0 l i hi2 hl _ _ _ _ _ _ _ ?_)
        rw [e1]; exact h3
      · rw [if_neg c] at h3
        have e3 : wrap64 ((i : Int) - 1) = ((i - 1 : Nat) : Int) := by unfold wrap64; omega
        have eU : rd_T25 l ((i - 1 : Nat) : Int) = l.getD (i - 1) l[i] := by
          rw [show rd_T25 l ((i - 1 : Nat) : Int) = l[i - 1] from rd_get (by omega), List.getD_eq_getElem?_getD, List.getElem?_eq_getElem (by omega)]; rfl
        rw [e3, eU]
        refine Ev.neg (by omega) (Ev.pos (by omega) (Ev.pos (by omega) (Ev.ite' (fun c2 => ?_) (fun c2 => ?_))))
        · rw [if_pos c2] at h3
          refine stats_Sum_j0 l i hi2 hl _ _ _ _ _ _ _ ?_
          rw [e1]; exact h3
        · rw [if_neg c2] at h3
          refine stats_Sum_j0 l i hi2 hl _ _ _ _ _ _ _ ?_
          rw [e1]; exact h3
  have h0 := H l.length 0 (by omega)
  simp only [List.take_zero, List.map_nil, List.sum_nil, netN] at h0
  rw [show wrap64 0 = 0 by unfold wrap64; omega] at h0
  exact h0

end Go.Proofs.Ytopbcamlagdieaa.PStats
set_option linter.unusedVariables false
set_option linter.unusedSimpArgs false
namespace Go.Proofs.Ytopbcamlagdieaa.PStats
open Go.RowKit Go.Proofs.YtopbcamlagdieaaW.PrintWords Go.Proofs.YtopbcamlagdieaaW.PrintLast Go.Proofs.YtopbcamlagdieaaW.PrintMore

/-! ### addr.Right -/
theorem addr_Right_s (a : Int) : addr_Right.f a = some (decide (0 ≤ a ∧ a ≤ 4294967295)) := by
  unfold addr_Right.f
  by_cases h : a ≥ 0
  · rw [if_pos h]; congr 1; exact decide_eq_decide.2 ⟨fun h2 => ⟨h, h2⟩, fun h2 => h2.2⟩
  · rw [if_neg h, decide_eq_false (by omega)]

end Go.Proofs.Ytopbcamlagdieaa.PStats
set_option linter.unusedVariables false
set_option linter.unusedSimpArgs false
namespace Go.Proofs.Ytopbcamlagdieaa.PStats
open Go.RowKit Go.Proofs.YtopbcamlagdieaaW.PrintWords Go.Proofs.YtopbcamlagdieaaW.PrintLast Go.Proofs.YtopbcamlagdieaaW.PrintMore

/-! ### conf.within -/
theorem conf_within_s (a b c : Int) : conf_within.f a b c = some (decide (b ≤ a ∧ a ≤ c)) := by
  unfold conf_within.f
  by_cases h : a ≥ b
  · rw [if_pos h]; congr 1; exact decide_eq_decide.2 ⟨fun h2 => ⟨h, h2⟩, fun h2 => h2.2⟩
  · rw [if_neg h, decide_eq_false (fun h2 => h h2.1)]

end Go.Proofs.Ytopbcamlagdieaa.PStats
set_option linter.unusedVariables false
set_option linter.unusedSimpArgs false
namespace Go.Proofs.Ytopbcamlagdieaa.PStats
open Go.RowKit Go.Proofs.YtopbcamlagdieaaW.PrintWords Go.Proofs.YtopbcamlagdieaaW.PrintLast Go.Proofs.YtopbcamlagdieaaW.PrintMore

/-! ### conf.spots -/
theorem conf_spots_l1 (nets : List Nt) (m : Nat) (subs : List Sb) (hm : m < nets.length) (hn : nets.length ≤ 10) (hs : subs.length ≤ 10) : ∀ (d i : Nat) (out : List Sp) (r : List Sp), i + d = subs.length → out.length + d ≤ 1000 →
    Ev (fun k => conf_spots.l0 k (out ++ subAt (m : Int) i (subs.drop i)) nets (nets.length : Int) ((m + 1 : Nat) : Int)) r → Ev (fun k => conf_spots.l1 k out (m : Int) nets (nets.length : Int) (m : Int) subs (subs.length : Int) (i : Int)) r := by
  intro d
  induction d with
  | zero =>
    intro i out r hi ho h
    rw [List.drop_eq_nil_of_le (by omega), subAt, List.append_nil] at h
    refine Ev.step (fun k => ?_) h
    show conf_spots.l1 (k + 1) _ _ _ _ _ _ _ _ = _
    rw [conf_spots.l1, if_neg (by omega), wrap_next hm (by omega)]
  | succ d ih =>
    intro i out r hi ho h
    have hl : i < subs.length := by omega
    refine Ev.step (fun k => ?_) (ih (i + 1) (out ++ [⟨(m : Int), (i : Int), subs[i]⟩]) r (by omega) (by rw [List.length_append, List.length_singleton]; omega) ?_)
    · show conf_spots.l1 (k + 1) _ _ _ _ _ _ _ _ = _
      rw [conf_spots.l1, if_pos (by omega), if_pos (by omega), if_pos (by omega), if_pos (by omega), show rd_T60 subs (i : Int) = subs[i] from rd_get hl, wrap_next hl (by omega)]
    · rw [List.append_assoc, List.singleton_append]
      rwa [List.drop_eq_getElem_cons hl, subAt] at h
theorem conf_spots_l0 (nets : List Nt) (hn : nets.length ≤ 10) (hx : ∀ x ∈ nets, x.f0.length ≤ 10) : ∀ (d m : Nat) (out : List Sp), m + d = nets.length → out.length + 10 * d ≤ 500 →
    Ev (fun k => conf_spots.l0 k out nets (nets.length : Int) (m : Int)) (out ++ spotsFrom m (nets.drop m)) := by
  intro d
  induction d with
  | zero =>
    intro m out hm ho
    rw [List.drop_eq_nil_of_le (by omega), spotsFrom, List.append_nil]
    refine Ev.step (f := fun _ => some out) (fun k => ?_) Ev.some'
    show conf_spots.l0 (k + 1) _ _ _ _ = _
    rw [conf_spots.l0, if_neg (by omega)]
  | succ d ih =>
    intro m out hm ho
    have hl : m < nets.length := by omega
    have h10 := hx nets[m] (List.getElem_mem hl)
    rw [List.drop_eq_getElem_cons hl, spotsFrom, ← List.append_assoc]
    refine Ev.step (fun k => ?_) (conf_spots_l1 nets m nets[m].f0 hl hn h10 nets[m].f0.length 0 out _ (by omega) (by omega) ?_)
    · show conf_spots.l0 (k + 1) _ _ _ _ = _
      rw [conf_spots.l0, if_pos (by omega), if_pos (by omega), if_pos (by omega), show rd_T56 nets (m : Int) = nets[m] from rd_get hl]
      rfl
    · rw [List.drop_zero]
      exact ih (m + 1) _ (by omega) (by rw [List.length_append, subAt_len]; omega)
theorem conf_spots_s (a b : Int) (nets : List Nt) (h : Sm nets) : Ev (fun k => conf_spots.f k a b nets) (spotsL nets) := by
  have e := conf_spots_l0 nets h.1 (fun x hx => (h.2 x hx).1) nets.length 0 [] (by omega) (by have := h.1; simp; omega)
  rw [List.drop_zero, List.nil_append] at e
  exact e

end Go.Proofs.Ytopbcamlagdieaa.PStats
set_option linter.unusedVariables false
set_option linter.unusedSimpArgs false
namespace Go.Proofs.Ytopbcamlagdieaa.PStats
open Go.RowKit Go.Proofs.YtopbcamlagdieaaW.PrintWords Go.Proofs.YtopbcamlagdieaaW.PrintLast Go.Proofs.YtopbcamlagdieaaW.PrintMore

/-! ### key.Right -/
theorem key_Right_s (s : ByteArray) (hs : s.size ≤ maxLen) : key_Right.f s = some (keyB s) := by
  unfold key_Right.f keyB
  simp only [maxLen] at hs
  have hw : wrap64 ((s.size : Int) - 1) = (s.size : Int) - 1 := by unfold wrap64; omega
  rw [hw]
  clear hw
  by_cases h0 : (s.size : Int) = 0
  · rw [if_pos h0, decide_eq_false (show ¬ 3 ≤ s.size by omega)]; rfl
  · rw [if_neg h0, if_pos (by omega)]
    by_cases h1 : bt s 0 = 105
    · rw [if_pos h1]
      by_cases h2 : (s.size : Int) - 1 ≥ 2
      · rw [if_pos h2, decide_eq_true (show 3 ≤ s.size by omega), Bool.true_and]
        congr 1
        rw [Bool.eq_iff_iff, decide_eq_true_iff, Bool.or_eq_true, decide_eq_true_iff, decide_eq_true_iff]
        constructor
        · intro h; exact .inl ⟨h1, by omega⟩
        · rintro (⟨_, h⟩ | ⟨h, _⟩) <;> omega
      · rw [if_neg h2, decide_eq_false (show ¬ 3 ≤ s.size by omega)]; rfl
    · rw [if_neg h1]
      by_cases h3 : bt s 0 = 104
      · rw [if_pos h3]
        by_cases h2 : (s.size : Int) - 1 ≥ 2
        · rw [if_pos h2, decide_eq_true (show 3 ≤ s.size by omega), Bool.true_and]
          congr 1
          rw [Bool.eq_iff_iff, decide_eq_true_iff, Bool.or_eq_true, decide_eq_true_iff, decide_eq_true_iff]
          constructor
          · intro h; exact .inr ⟨h3, by omega⟩
          · rintro (⟨h, _⟩ | ⟨_, h⟩) <;> omega
        · rw [if_neg h2, decide_eq_false (show ¬ 3 ≤ s.size by omega)]; rfl
      · rw [if_neg h3, decide_eq_false (show ¬ (bt s 0 = 105 ∧ s.size ≤ 256) from fun h => h1 h.1), decide_eq_false (show ¬ (bt s 0 = 104 ∧ s.size ≤ 18) from fun h => h3 h.1), Bool.or_false, Bool.and_false]

end Go.Proofs.Ytopbcamlagdieaa.PStats
set_option linter.unusedVariables false
set_option linter.unusedSimpArgs false
namespace Go.Proofs.Ytopbcamlagdieaa.PStats
open Go.RowKit Go.Proofs.YtopbcamlagdieaaW.PrintWords Go.Proofs.YtopbcamlagdieaaW.PrintLast Go.Proofs.YtopbcamlagdieaaW.PrintMore

/-! ### addr.mask -/
theorem addr_mask_all : ∀ i : Fin 33, addr_mask.f (i.val : Int) = some (4294967296 - (Com.sz (i.val : Int) : Int)) := by decide +kernel
theorem addr_mask_s (n : Int) (h0 : 0 ≤ n) (h1 : n ≤ 32) : addr_mask.f n = some (4294967296 - (Com.sz n : Int)) := by
  have := addr_mask_all ⟨n.toNat, by omega⟩
  rw [show ((⟨n.toNat, by omega⟩ : Fin 33).val : Int) = n from by simp; omega] at this
  exact this
theorem addr_mask_n (n : Int) : 4294967296 - (Com.sz n : Int) = ((4294967296 - 2 ^ (32 - n.toNat) : Nat) : Int) := by
  have := Com.sz_le n
  unfold Com.sz at *
  omega

end Go.Proofs.Ytopbcamlagdieaa.PStats
set_option linter.unusedVariables false
set_option linter.unusedSimpArgs false
namespace Go.Proofs.Ytopbcamlagdieaa.PStats
open Go.RowKit Go.Proofs.YtopbcamlagdieaaW.PrintWords Go.Proofs.YtopbcamlagdieaaW.PrintLast Go.Proofs.YtopbcamlagdieaaW.PrintMore

/-! ### addr.Fair -/
theorem addr_Fair_s (b n : Int) : addr_Fair.f b n = some (Com.fairB b n) := by
  unfold addr_Fair.f Com.fairB
  by_cases h0 : n ≥ 0
  · rw [if_pos h0]
    by_cases h1 : n ≤ 32
    · rw [if_pos h1, addr_Right_s]
      simp only [Option.bind_some]
      by_cases h2 : 0 ≤ b ∧ b ≤ 4294967295
      · rw [decide_eq_true h2, if_pos rfl, addr_mask_s n h0 h1, Option.bind_some]
        obtain ⟨x, rfl⟩ := Int.eq_ofNat_of_zero_le h2.1
        rw [addr_mask_n, Com.i64_andNot_mask x (32 - n.toNat) (by omega) (by omega)]
        congr 1
        have e : ((x % 2 ^ (32 - n.toNat) : Nat) : Int) = (x : Int) % (Com.sz n : Int) := by unfold Com.sz; push_cast; rfl
        rw [e, Bool.eq_iff_iff, beq_iff_eq, decide_eq_true_iff]
        exact ⟨fun h => ⟨h0, h1, h2.1, h2.2, h⟩, fun h => h.2.2.2.2⟩
      · rw [decide_eq_false h2, if_neg (by simp), decide_eq_false (fun h => h2 ⟨h.2.2.1, h.2.2.2.1⟩)]
    · rw [if_neg h1, decide_eq_false (fun h => h1 h.2.1)]
  · rw [if_neg h0, decide_eq_false (fun h => h0 h.1)]

end Go.Proofs.Ytopbcamlagdieaa.PStats
set_option linter.unusedVariables false
set_option linter.unusedSimpArgs false
namespace Go.Proofs.Ytopbcamlagdieaa.PStats
open Go.RowKit Go.Proofs.YtopbcamlagdieaaW.PrintWords Go.Proofs.YtopbcamlagdieaaW.PrintLast Go.Proofs.YtopbcamlagdieaaW.PrintMore

/-! ### conf.fair -/
theorem conf_fair_l1 (l : List Rs) (hl : l.length ≤ 20) (hk : ∀ r ∈ l, r.f0.size ≤ 1000) {r : Bool} (hr : r = decide (∀ i, (h : i < l.length) → keyB l[i].f0 = true)) : Ev (fun k => conf_fair.l1 k l (l.length : Int) 0) r := by
  refine loopC (n := l.length) (L := fun k i => conf_fair.l1 k l (l.length : Int) i) (fun i => (h : i < l.length) → keyB l[i].f0 = true) false (fun i hi hp r h => ?_) (fun i hi hp => ?_) (fun h => ?_) (fun h => ?_)
  · refine Ev.step (fun k => ?_) h
    have h1 : l[i].f0.size ≤ maxLen := by have := hk l[i] (List.getElem_mem hi); simp only [maxLen]; omega
    show conf_fair.l1 (k + 1) l _ _ = _
    rw [conf_fair.l1, if_pos (by omega), if_pos (by omega), if_pos (by omega), show rd_T65 l (i : Int) = l[i] from rd_get hi, key_Right_s _ h1, hp hi, Option.bind_some, if_pos rfl, wrap_next hi (by omega)]
  · refine Ev.step (f := fun _ => some false) (fun k => ?_) Ev.some'
    have h1 : l[i].f0.size ≤ maxLen := by have := hk l[i] (List.getElem_mem hi); simp only [maxLen]; omega
    have h2 : keyB l[i].f0 = false := by
      cases h : keyB l[i].f0 with
      | false => rfl
      | true => exact absurd (fun _ => h) hp
    show conf_fair.l1 (k + 1) l _ _ = _
    rw [conf_fair.l1, if_pos (by omega), if_pos (by omega), if_pos (by omega), show rd_T65 l (i : Int) = l[i] from rd_get hi, key_Right_s _ h1, h2, Option.bind_some, if_neg (by simp)]
  · rw [hr, decide_eq_true (fun i hi => h i hi hi)]
    refine Ev.step (f := fun _ => some true) (fun k => ?_) Ev.some'
    show conf_fair.l1 (k + 1) l _ _ = _
    rw [conf_fair.l1, if_neg (by omega)]
  · obtain ⟨i, hi, hp⟩ := h
    rw [hr]
    exact decide_eq_false (fun h => hp (fun hi => h i hi))
theorem conf_fair_l0 (a b : Int) (p : List Rg) (l : List Rs) (c d e : Int) (hl : l.length ≤ 20) (hp : p.length ≤ 20) (hk : ∀ r ∈ l, r.f0.size ≤ 1000) {r : Bool}
    (hr : r = decide ((∀ i, (h : i < p.length) → p[i].f0 ≤ p[i].f1) ∧ ∀ i, (h : i < l.length) → keyB l[i].f0 = true)) : Ev (fun k => conf_fair.l0 k p (p.length : Int) 0 a b p l c d e) r := by
  refine loopC (n := p.length) (L := fun k i => conf_fair.l0 k p (p.length : Int) i a b p l c d e) (fun i => (h : i < p.length) → p[i].f0 ≤ p[i].f1) false (fun i hi hp r h => ?_) (fun i hi hp => ?_) (fun h => ?_) (fun h => ?_)
  · refine Ev.step (fun k => ?_) h
    have := hp hi
    clear hp
    show conf_fair.l0 (k + 1) p _ _ _ _ _ _ _ _ _ = _
    rw [conf_fair.l0, if_pos (by omega), if_pos (by omega), if_pos (by omega), show rd_T76 p (i : Int) = p[i] from rd_get hi, if_neg (by omega), wrap_next hi (by omega)]
  · refine Ev.step (f := fun _ => some false) (fun k => ?_) Ev.some'
    have : p[i].f0 > p[i].f1 := by
      by_cases h : p[i].f0 > p[i].f1
      · exact h
      · exact absurd (fun _ => Int.not_lt.1 h) hp
    clear hp
    show conf_fair.l0 (k + 1) p _ _ _ _ _ _ _ _ _ = _
    rw [conf_fair.l0, if_pos (by omega), if_pos (by omega), if_pos (by omega), show rd_T76 p (i : Int) = p[i] from rd_get hi, if_pos this]
  · refine Ev.step (f := fun k => conf_fair.l1 k l (l.length : Int) 0) (fun k => ?_) (conf_fair_l1 l hl hk ?_)
    · show conf_fair.l0 (k + 1) p _ _ _ _ _ _ _ _ _ = _
      rw [conf_fair.l0, if_neg (by omega)]
    · rw [hr]; exact decide_eq_decide.2 ⟨fun h2 => h2.2, fun h2 => ⟨fun i hi => h i hi hi, h2⟩⟩
  · obtain ⟨i, hi, hp⟩ := h
    rw [hr]
    exact decide_eq_false (fun h => hp (fun hi => h.1 i hi))
open Classical in
theorem conf_fair_s (s : Sb) (hs : SmS s) : Ev (fun k => conf_fair.f k s.f0 s.f1 s.f2 s.f3 s.f4 s.f5 s.f6) (decide (FairS s)) := by
  obtain ⟨h1, h2, h3⟩ := hs
  have J : ∀ (x : Bool), (x = true → ¬ FairS s) → (x = false → (FairS s ↔ ((∀ i, (h : i < s.f2.length) → s.f2[i].f0 ≤ s.f2[i].f1) ∧ ∀ i, (h : i < s.f3.length) → keyB s.f3[i].f0 = true))) →
      Ev (fun k => conf_fair.j0 k x s.f0 s.f1 s.f2 s.f3 s.f4 s.f5 s.f6) (decide (FairS s)) := by
    intro x hx hy
    cases x with
    | true =>
      rw [decide_eq_false (hx rfl)]
      exact Ev.step (f := fun _ => some false) (fun k => by show conf_fair.j0 (k + 1) _ _ _ _ _ _ _ _ = _; rw [conf_fair.j0, if_pos rfl]) Ev.some'
    | false =>
      refine Ev.step (f := fun k => conf_fair.l0 k s.f2 (s.f2.length : Int) 0 s.f0 s.f1 s.f2 s.f3 s.f4 s.f5 s.f6) (fun k => by show conf_fair.j0 (k + 1) _ _ _ _ _ _ _ _ = _; rw [conf_fair.j0, if_neg (by simp)]) (conf_fair_l0 _ _ _ _ _ _ _ h2 h1 h3 ?_)
      exact decide_eq_decide.2 (hy rfl)
  simp only [conf_fair.f, addr_Fair_s, conf_within_s, Option.bind_some]
  by_cases a1 : Com.fairB s.f0 s.f1 = true
  · refine Ev.pos a1 ?_
    by_cases a2 : 8 ≤ s.f1 ∧ s.f1 ≤ 30
    · refine Ev.pos (decide_eq_true a2) ?_
      by_cases a3 : (s.f2.length : Int) > 4
      · refine Ev.pos a3 (J true (fun _ h => by have := h.2.2.2.1; omega) (fun h => by cases h))
      · refine Ev.neg a3 ?_
        by_cases a4 : (s.f3.length : Int) > 8
        · refine Ev.pos a4 (J true (fun _ h => by have := h.2.2.2.2.1; omega) (fun h => by cases h))
        · refine Ev.neg a4 ?_
          by_cases a5 : 0 ≤ s.f4 ∧ s.f4 ≤ 99
          · refine Ev.pos (decide_eq_true a5) (J _ (fun h h2 => ?_) (fun h => ?_))
            · have h3 := h2.2.2.2.2.2.2.2
              rw [decide_eq_true ⟨h3.1, h3.2.1⟩] at h; cases h
            · have h3 : 1 ≤ s.f6 ∧ s.f6 ≤ 2147483648 := by
                by_cases q : 1 ≤ s.f6 ∧ s.f6 ≤ 2147483648
                · exact q
                · rw [decide_eq_false q] at h; cases h
              exact ⟨fun h => h.2.2.2.2.2.2.2.2.2, fun h => ⟨a1, a2.1, a2.2, by omega, by omega, a5.1, a5.2, h3.1, h3.2, h⟩⟩
          · exact Ev.neg (by rw [decide_eq_false a5]; simp) (J true (fun _ h => a5 ⟨h.2.2.2.2.2.1, h.2.2.2.2.2.2.1⟩) (fun h => by cases h))
    · exact Ev.neg (by rw [decide_eq_false a2]; simp) (J true (fun _ h => a2 ⟨h.2.1, h.2.2.1⟩) (fun h => by cases h))
  · exact Ev.neg a1 (J true (fun _ h => a1 h.1) (fun h => by cases h))

end Go.Proofs.Ytopbcamlagdieaa.PStats
set_option linter.unusedVariables false
set_option linter.unusedSimpArgs false
namespace Go.Proofs.Ytopbcamlagdieaa.PStats
open Go.RowKit Go.Proofs.YtopbcamlagdieaaW.PrintWords Go.Proofs.YtopbcamlagdieaaW.PrintLast Go.Proofs.YtopbcamlagdieaaW.PrintMore

/-! ### conf.form -/
open Classical in
theorem conf_form_l1 (nets : List Nt) (h : Sm nets) {r : Bool} (hr : r = true ↔ ∀ n ∈ nets, ∀ s ∈ n.f0, FairS s) : Ev (fun k => conf_form.l1 k (spotsL nets) ((spotsL nets).length : Int) 0) r := by
  have hN : (spotsL nets).length ≤ 1000 := by have := spots_len (n := 0) (fun x hx => (h.2 x hx).1); have := h.1; unfold spotsL; omega
  have hS : ∀ (i : Nat) (hi : i < (spotsL nets).length), SmS (spotsL nets)[i].f2 := fun i hi => (spots_all (F := SmS)).2 (fun n hn s hs => (h.2 n hn).2 s hs) _ (List.getElem_mem hi)
  rw [← spots_all] at hr
  generalize spotsL nets = l at *
  refine loopC (n := l.length) (L := fun k i => conf_form.l1 k l (l.length : Int) i) (fun i => ∃ h : i < l.length, FairS l[i].f2) false (fun i hi hp r h => ?_) (fun i hi hp => ?_) (fun h => ?_) (fun h => ?_)
  · obtain ⟨_, hp⟩ := hp
    have e := conf_fair_s l[i].f2 (hS i hi)
    rw [decide_eq_true hp] at e
    refine Ev.step (fun k => ?_) (Ev.bind e (f := fun k t => if t = true then conf_form.l1 k l (l.length : Int) ((i + 1 : Nat) : Int) else some false) (Ev.pos rfl h))
    show conf_form.l1 (k + 1) _ _ _ = _
    rw [conf_form.l1, if_pos (by omega), if_pos (by omega), if_pos (by omega), show rd_T86 l (i : Int) = l[i] from rd_get hi, wrap_next hi (by omega)]
  · have e := conf_fair_s l[i].f2 (hS i hi)
    rw [decide_eq_false (fun h => hp ⟨hi, h⟩)] at e
    refine Ev.step (fun k => ?_) (Ev.bind e (f := fun k t => if t = true then conf_form.l1 k l (l.length : Int) ((i + 1 : Nat) : Int) else some false) (Ev.neg (by simp) Ev.some'))
    show conf_form.l1 (k + 1) _ _ _ = _
    rw [conf_form.l1, if_pos (by omega), if_pos (by omega), if_pos (by omega), show rd_T86 l (i : Int) = l[i] from rd_get hi, wrap_next hi (by omega)]
  · rw [hr.2 (fun x hx => by obtain ⟨i, hi, rfl⟩ := List.mem_iff_getElem.1 hx; exact (h i hi).2)]
    refine Ev.step (f := fun _ => some true) (fun k => ?_) Ev.some'
    show conf_form.l1 (k + 1) _ _ _ = _
    rw [conf_form.l1, if_neg (by omega)]
  · obtain ⟨i, hi, hp⟩ := h
    cases r with
    | false => rfl
    | true => exact absurd ⟨hi, hr.1 rfl _ (List.getElem_mem hi)⟩ hp
theorem conf_form_l0 (a b : Int) (nets : List Nt) (h : Sm nets) {r : Bool} (hr : r = true ↔ (∀ n ∈ nets, 1 ≤ n.f0.length ∧ n.f0.length ≤ 4) ∧ ∀ n ∈ nets, ∀ s ∈ n.f0, FairS s) : Ev (fun k => conf_form.l0 k nets (nets.length : Int) 0 a b nets) r := by
  have hN := h.1
  refine loopC (n := nets.length) (L := fun k i => conf_form.l0 k nets (nets.length : Int) i a b nets) (fun i => ∃ h : i < nets.length, 1 ≤ nets[i].f0.length ∧ nets[i].f0.length ≤ 4) false (fun i hi hp r h => ?_) (fun i hi hp => ?_) (fun h2 => ?_) (fun h => ?_)
  · obtain ⟨_, hp⟩ := hp
    refine Ev.step (fun k => ?_) h
    show conf_form.l0 (k + 1) _ _ _ _ _ _ = _
    rw [conf_form.l0, if_pos (by omega), if_pos (by omega), if_pos (by omega), show rd_T56 nets (i : Int) = nets[i] from rd_get hi, conf_within_s, decide_eq_true (by omega), Option.bind_some, if_pos rfl, wrap_next hi (by omega)]
  · have h4 : ¬ (1 ≤ (nets[i].f0.length : Int) ∧ (nets[i].f0.length : Int) ≤ 4) := fun h => hp ⟨hi, by omega⟩
    refine Ev.step (f := fun _ => some false) (fun k => ?_) Ev.some'
    show conf_form.l0 (k + 1) _ _ _ _ _ _ = _
    rw [conf_form.l0, if_pos (by omega), if_pos (by omega), if_pos (by omega), show rd_T56 nets (i : Int) = nets[i] from rd_get hi, conf_within_s, decide_eq_false h4, Option.bind_some, if_neg (by simp)]
  · refine Ev.step (fun k => ?_) (Ev.bind (conf_spots_s a b nets h) (f := fun k t => conf_form.l1 k t (t.length : Int) 0) (conf_form_l1 nets h (r := r) ?_))
    · show conf_form.l0 (k + 1) _ _ _ _ _ _ = _
      rw [conf_form.l0, if_neg (by omega)]
    · rw [hr]
      exact ⟨fun h => h.2, fun h3 => ⟨fun n hn => by obtain ⟨i, hi, rfl⟩ := List.mem_iff_getElem.1 hn; exact (h2 i hi).2, h3⟩⟩
  · obtain ⟨i, hi, hp⟩ := h
    cases r with
    | false => rfl
    | true => exact absurd ⟨hi, (hr.1 rfl).1 _ (List.getElem_mem hi)⟩ hp
open Classical in
theorem conf_form_s (a b : Int) (nets : List Nt) (h : Sm nets) : Ev (fun k => conf_form.f k a b nets) (decide (FormP a b nets)) := by
  have J : ∀ (x : Bool), (x = true → ¬ FormP a b nets) → (x = false → (FormP a b nets ↔ ((∀ n ∈ nets, 1 ≤ n.f0.length ∧ n.f0.length ≤ 4) ∧ ∀ n ∈ nets, ∀ s ∈ n.f0, FairS s))) →
      Ev (fun k => conf_form.j0 k x a b nets) (decide (FormP a b nets)) := by
    intro x hx hy
    cases x with
    | true =>
      rw [decide_eq_false (hx rfl)]
      exact Ev.step (f := fun _ => some false) (fun k => by show conf_form.j0 (k + 1) _ _ _ _ = _; rw [conf_form.j0, if_pos rfl]) Ev.some'
    | false =>
      refine Ev.step (fun k => by show conf_form.j0 (k + 1) _ _ _ _ = _; rw [conf_form.j0, if_neg (by simp)]) (conf_form_l0 a b nets h ?_)
      rw [decide_eq_true_iff]; exact hy rfl
  simp only [conf_form.f, addr_Right_s, conf_within_s, Option.bind_some]
  by_cases a1 : 0 ≤ a ∧ a ≤ 4294967295
  · refine Ev.pos (decide_eq_true a1) ?_
    by_cases a2 : 1 ≤ b ∧ b ≤ 2147483648
    · refine Ev.pos (decide_eq_true a2) (J _ (fun h3 h4 => ?_) (fun h3 => ?_))
      · have := of_decide_eq_true h3; have := h4.2.2.2.2.1; omega
      · have := of_decide_eq_false h3
        exact ⟨fun h => h.2.2.2.2.2, fun h => ⟨a1.1, a1.2, a2.1, a2.2, by omega, h⟩⟩
    · exact Ev.neg (by rw [decide_eq_false a2]; simp) (J true (fun _ h => a2 ⟨h.2.2.1, h.2.2.2.1⟩) (fun h => by cases h))
  · exact Ev.neg (by rw [decide_eq_false a1]; simp) (J true (fun _ h => a1 ⟨h.1, h.2.1⟩) (fun h => by cases h))

end Go.Proofs.Ytopbcamlagdieaa.PStats
set_option linter.unusedVariables false
set_option linter.unusedSimpArgs false
namespace Go.Proofs.Ytopbcamlagdieaa.PStats
open Go.RowKit Go.Proofs.YtopbcamlagdieaaW.PrintWords Go.Proofs.YtopbcamlagdieaaW.PrintLast Go.Proofs.YtopbcamlagdieaaW.PrintMore

/-! ### addr.Has -/
theorem addr_Has_s (b n a : Int) : addr_Has.f b n a = some (Com.hasB b n a) := by
  unfold addr_Has.f Com.hasB
  rw [addr_Fair_s, Option.bind_some]
  by_cases h : Com.fairB b n = true
  · obtain ⟨h0, h1, h2, h3, h4⟩ := (Com.fairB_iff b n).1 h
    have he := Com.fair_end b n h
    have hp := Com.sz_pos n
    rw [if_pos h, h, Bool.true_and, addr_Right_s, Option.bind_some]
    by_cases ha : 0 ≤ a ∧ a ≤ 4294967295
    · rw [decide_eq_true ha, if_pos rfl, addr_mask_s n h0 h1, Option.bind_some]
      obtain ⟨x, rfl⟩ := Int.eq_ofNat_of_zero_le ha.1
      rw [addr_mask_n, Com.i64_and_nat x _ (by omega) (Nat.lt_of_le_of_lt (Nat.sub_le _ _) (by omega)), Com.and_mask x _ (by omega) (by omega)]
      congr 1
      rw [Bool.eq_iff_iff, beq_iff_eq, decide_eq_true_iff]
      obtain ⟨q, hq⟩ := Int.dvd_of_emod_eq_zero h4
      have hszz : (2 ^ (32 - n.toNat) : Nat) = Com.sz n := rfl
      rw [hszz]
      push_cast
      rw [hq]
      have hs : (0 : Int) < Com.sz n := by omega
      generalize (Com.sz n : Int) = s at *
      have hd := Int.mul_ediv_add_emod (x : Int) s
      have hm0 := Int.emod_nonneg (x : Int) (by omega : s ≠ 0)
      have hm1 := Int.emod_lt_of_pos (x : Int) hs
      constructor
      · intro e
        rw [Int.mul_comm] at e
        omega
      · intro ⟨e1, e2⟩
        have hx : (x : Int) / s = q := by
          have t1 : q ≤ (x : Int) / s := (Int.le_ediv_iff_mul_le hs).2 (by rw [Int.mul_comm]; omega)
          have t2 : (x : Int) / s < q + 1 := (Int.ediv_lt_iff_lt_mul hs).2 (by rw [Int.add_mul, Int.mul_comm q]; omega)
          omega
        rw [hx, Int.mul_comm]
    · rw [decide_eq_false ha, if_neg (by simp), decide_eq_false (by omega)]
  · rw [if_neg h, Bool.eq_false_iff.2 h, Bool.false_and]

end Go.Proofs.Ytopbcamlagdieaa.PStats
set_option linter.unusedVariables false
set_option linter.unusedSimpArgs false
namespace Go.Proofs.Ytopbcamlagdieaa.PStats
open Go.RowKit Go.Proofs.YtopbcamlagdieaaW.PrintWords Go.Proofs.YtopbcamlagdieaaW.PrintLast Go.Proofs.YtopbcamlagdieaaW.PrintMore

/-! ### conf.has -/
theorem conf_has_s (a b c : Int) : conf_has.f a b c = some (decide (a ≤ c ∧ c ≤ b)) := by
  unfold conf_has.f
  rw [conf_within_s, Option.bind_some]

end Go.Proofs.Ytopbcamlagdieaa.PStats
set_option linter.unusedVariables false
set_option linter.unusedSimpArgs false
namespace Go.Proofs.Ytopbcamlagdieaa.PStats
open Go.RowKit Go.Proofs.YtopbcamlagdieaaW.PrintWords Go.Proofs.YtopbcamlagdieaaW.PrintLast Go.Proofs.YtopbcamlagdieaaW.PrintMore

/-! ### addr.Last -/
theorem addr_Last_all : ∀ i : Fin 33, Go.bits .andNot .i64 4294967295 (4294967296 - (Com.sz (i.val : Int) : Int)) = (Com.sz (i.val : Int) : Int) - 1 := by decide +kernel
theorem addr_Last_s (b n : Int) : addr_Last.f b n = some (if Com.fairB b n = true then (b + (Com.sz n : Int) - 1, 0) else (0, 1)) := by
  unfold addr_Last.f
  rw [addr_Fair_s, Option.bind_some]
  by_cases h : Com.fairB b n = true
  · obtain ⟨h0, h1, h2, h3, h4⟩ := (Com.fairB_iff b n).1 h
    have he := Com.fair_end b n h
    rw [if_pos h, if_pos h, addr_mask_s n h0 h1, Option.bind_some]
    have ha := addr_Last_all ⟨n.toNat, by omega⟩
    rw [show ((⟨n.toNat, by omega⟩ : Fin 33).val : Int) = n from by simp; omega] at ha
    rw [ha]
    obtain ⟨q, hq⟩ := Int.dvd_of_emod_eq_zero h4
    have hp := Com.sz_pos n
    have hq0 : 0 ≤ q := by
      refine Int.le_of_not_gt fun hlt => ?_
      have : (Com.sz n : Int) * q ≤ (Com.sz n : Int) * (-1) := Int.mul_le_mul_of_nonneg_left (by omega) (by omega)
      omega
    obtain ⟨x, rfl⟩ := Int.eq_ofNat_of_zero_le hq0
    have hb : b = ((x * 2 ^ (32 - n.toNat) : Nat) : Int) := by rw [hq]; unfold Com.sz; push_cast; rw [Int.mul_comm]
    have hz : (Com.sz n : Int) - 1 = ((2 ^ (32 - n.toNat) - 1 : Nat) : Int) := by unfold Com.sz at *; omega
    have hszz : Com.sz n = 2 ^ (32 - n.toNat) := rfl
    rw [hz, hb, Com.i64_or_add x (2 ^ (32 - n.toNat) - 1) (32 - n.toNat) (by omega) (by omega)]
    congr 2
    omega
  · rw [if_neg h, if_neg h]

end Go.Proofs.Ytopbcamlagdieaa.PStats
set_option linter.unusedVariables false
set_option linter.unusedSimpArgs false
namespace Go.Proofs.Ytopbcamlagdieaa.PStats
open Go.RowKit Go.Proofs.YtopbcamlagdieaaW.PrintWords Go.Proofs.YtopbcamlagdieaaW.PrintLast Go.Proofs.YtopbcamlagdieaaW.PrintMore

/-! ### conf.inside -/
theorem conf_inside_s (s : Sb) (h : Com.fairB s.f0 s.f1 = true) (a : Int) : conf_inside.f s.f0 s.f1 s.f2 s.f3 s.f4 s.f5 s.f6 a = some (decide (InS s a)) := by
  unfold conf_inside.f
  rw [addr_Last_s, if_pos h, Option.bind_some]
  by_cases c : a > s.f0
  · rw [if_pos c]; congr 1; exact decide_eq_decide.2 ⟨fun h2 => ⟨c, h2⟩, fun h2 => h2.2⟩
  · rw [if_neg c, decide_eq_false (fun h2 => c h2.1)]

end Go.Proofs.Ytopbcamlagdieaa.PStats
set_option linter.unusedVariables false
set_option linter.unusedSimpArgs false
namespace Go.Proofs.Ytopbcamlagdieaa.PStats
open Go.RowKit Go.Proofs.YtopbcamlagdieaaW.PrintWords Go.Proofs.YtopbcamlagdieaaW.PrintLast Go.Proofs.YtopbcamlagdieaaW.PrintMore

/-! ### conf.placed -/
theorem conf_placed_l2 (l : List Sp) (N : Int) (m : Nat) (sv b : Int) (nets : List Nt) (x0 x1 : Int) (s : Sb) (hs : SmS s) (hF : Com.fairB s.f0 s.f1 = true) (hm : m < l.length) (hl : l.length ≤ 1000) {r : Bool}
    (h1 : ((∀ i, (h : i < s.f3.length) → InS s s.f3[i].f1 ∧ s.f3[i].f1 ≠ sv) ∧ (s.f5 ≠ 0 → Com.hasB s.f0 s.f1 s.f5 = true)) → Ev (fun k => conf_placed.l0 k l N ((m + 1 : Nat) : Int) sv b nets) r)
    (h2 : (¬ ((∀ i, (h : i < s.f3.length) → InS s s.f3[i].f1 ∧ s.f3[i].f1 ≠ sv) ∧ (s.f5 ≠ 0 → Com.hasB s.f0 s.f1 s.f5 = true))) → r = false) :
    Ev (fun k => conf_placed.l2 k l N (m : Int) s.f3 (s.f3.length : Int) 0 sv b nets x0 x1 s.f0 s.f1 s.f2 s.f3 s.f4 s.f5 s.f6) r := by
  have h20 := hs.2.1
  refine loopC (n := s.f3.length) (L := fun k i => conf_placed.l2 k l N (m : Int) s.f3 (s.f3.length : Int) i sv b nets x0 x1 s.f0 s.f1 s.f2 s.f3 s.f4 s.f5 s.f6) (fun i => ∃ h : i < s.f3.length, InS s s.f3[i].f1 ∧ s.f3[i].f1 ≠ sv) false (fun i hi hp r h3 => ?_) (fun i hi hp => ?_) (fun h3 => ?_) (fun h3 => ?_)
  · obtain ⟨_, hp1, hp2⟩ := hp
    refine Ev.step (fun k => ?_) h3
    show conf_placed.l2 (k + 1) _ _ _ _ _ _ _ _ _ _ _ _ _ _ _ _ _ _ = _
    rw [conf_placed.l2, if_pos (by omega), if_pos (by omega), if_pos (by omega), show rd_T65 s.f3 (i : Int) = s.f3[i] from rd_get hi, conf_inside_s s hF, decide_eq_true hp1, Option.bind_some, if_pos rfl, if_neg hp2, wrap_next hi (by omega)]
  · refine Ev.step (f := fun _ => some false) (fun k => ?_) Ev.some'
    show conf_placed.l2 (k + 1) _ _ _ _ _ _ _ _ _ _ _ _ _ _ _ _ _ _ = _
    rw [conf_placed.l2, if_pos (by omega), if_pos (by omega), if_pos (by omega), show rd_T65 s.f3 (i : Int) = s.f3[i] from rd_get hi, conf_inside_s s hF, Option.bind_some]
    by_cases c : InS s s.f3[i].f1
    · rw [if_pos (decide_eq_true c)]
      by_cases c2 : s.f3[i].f1 = sv
      · rw [if_pos c2]
      · exact absurd ⟨hi, c, c2⟩ hp
    · rw [decide_eq_false c, if_neg (by simp)]
  · have h4 : ∀ i, (h : i < s.f3.length) → InS s s.f3[i].f1 ∧ s.f3[i].f1 ≠ sv := fun i hi => (h3 i hi).2
    refine Ev.step (f := fun k => if s.f5 = 0 then conf_placed.l0 k l N ((m + 1 : Nat) : Int) sv b nets else (if Com.hasB s.f0 s.f1 s.f5 = true then conf_placed.l0 k l N ((m + 1 : Nat) : Int) sv b nets else some false)) (fun k => ?_) ?_
    · show conf_placed.l2 (k + 1) _ _ _ _ _ _ _ _ _ _ _ _ _ _ _ _ _ _ = _
      rw [conf_placed.l2, if_neg (by omega), addr_Has_s, Option.bind_some, wrap_next hm (by omega)]
    · by_cases c : s.f5 = 0
      · exact Ev.pos c (h1 ⟨h4, fun h => absurd c h⟩)
      · refine Ev.neg c ?_
        by_cases c2 : Com.hasB s.f0 s.f1 s.f5 = true
        · exact Ev.pos c2 (h1 ⟨h4, fun _ => c2⟩)
        · rw [h2 (fun h => c2 (h.2 c))]; exact Ev.neg c2 Ev.some'
  · obtain ⟨i, hi, hp⟩ := h3
    exact h2 (fun h => hp ⟨hi, h.1 i hi⟩)
theorem conf_placed_l1 (l : List Sp) (N : Int) (m : Nat) (sv b : Int) (nets : List Nt) (x0 x1 : Int) (s : Sb) (hs : SmS s) (hF : Com.fairB s.f0 s.f1 = true) (hm : m < l.length) (hl : l.length ≤ 1000) {r : Bool}
    (h1 : PlaceS sv s → Ev (fun k => conf_placed.l0 k l N ((m + 1 : Nat) : Int) sv b nets) r) (h2 : ¬ PlaceS sv s → r = false) :
    Ev (fun k => conf_placed.l1 k l N (m : Int) s.f2 (s.f2.length : Int) 0 sv b nets x0 x1 s.f0 s.f1 s.f2 s.f3 s.f4 s.f5 s.f6) r := by
  have h20 := hs.1
  refine loopC (n := s.f2.length) (L := fun k i => conf_placed.l1 k l N (m : Int) s.f2 (s.f2.length : Int) i sv b nets x0 x1 s.f0 s.f1 s.f2 s.f3 s.f4 s.f5 s.f6) (fun i => ∃ h : i < s.f2.length, InS s s.f2[i].f0 ∧ InS s s.f2[i].f1 ∧ ¬ (s.f2[i].f0 ≤ sv ∧ sv ≤ s.f2[i].f1)) false (fun i hi hp r h3 => ?_) (fun i hi hp => ?_) (fun h3 => ?_) (fun h3 => ?_)
  · obtain ⟨_, hp1, hp2, hp3⟩ := hp
    refine Ev.step (fun k => ?_) h3
    show conf_placed.l1 (k + 1) _ _ _ _ _ _ _ _ _ _ _ _ _ _ _ _ _ _ = _
    rw [conf_placed.l1, if_pos (by omega), if_pos (by omega), if_pos (by omega), show rd_T76 s.f2 (i : Int) = s.f2[i] from rd_get hi, conf_inside_s s hF, decide_eq_true hp1, Option.bind_some, if_pos rfl, conf_inside_s s hF, decide_eq_true hp2, Option.bind_some, if_pos rfl, conf_has_s, decide_eq_false hp3, Option.bind_some, if_neg (by simp), wrap_next hi (by omega)]
  · refine Ev.step (f := fun _ => some false) (fun k => ?_) Ev.some'
    show conf_placed.l1 (k + 1) _ _ _ _ _ _ _ _ _ _ _ _ _ _ _ _ _ _ = _
    rw [conf_placed.l1, if_pos (by omega), if_pos (by omega), if_pos (by omega), show rd_T76 s.f2 (i : Int) = s.f2[i] from rd_get hi, conf_inside_s s hF, Option.bind_some]
    by_cases c : InS s s.f2[i].f0
    · rw [if_pos (decide_eq_true c), conf_inside_s s hF, Option.bind_some]
      by_cases c2 : InS s s.f2[i].f1
      · rw [if_pos (decide_eq_true c2), conf_has_s, Option.bind_some]
        by_cases c3 : s.f2[i].f0 ≤ sv ∧ sv ≤ s.f2[i].f1
        · rw [if_pos (decide_eq_true c3)]
        · exact absurd ⟨hi, c, c2, c3⟩ hp
      · rw [decide_eq_false c2, if_neg (by simp)]
    · rw [decide_eq_false c, if_neg (by simp)]
  · have h4 : ∀ i, (h : i < s.f2.length) → InS s s.f2[i].f0 ∧ InS s s.f2[i].f1 ∧ ¬ (s.f2[i].f0 ≤ sv ∧ sv ≤ s.f2[i].f1) := fun i hi => (h3 i hi).2
    refine Ev.step (fun k => ?_) (conf_placed_l2 l N m sv b nets x0 x1 s hs hF hm hl (r := r) (fun h => h1 ⟨h4, h.1, h.2⟩) (fun h => h2 (fun h5 => h ⟨h5.2.1, h5.2.2⟩)))
    show conf_placed.l1 (k + 1) _ _ _ _ _ _ _ _ _ _ _ _ _ _ _ _ _ _ = _
    rw [conf_placed.l1, if_neg (by omega)]
  · obtain ⟨i, hi, hp⟩ := h3
    exact h2 (fun h => hp ⟨hi, h.1 i hi⟩)
open Classical in
theorem conf_placed_s (a b : Int) (nets : List Nt) (h : Sm nets) (hF : ∀ n ∈ nets, ∀ s ∈ n.f0, FairS s) : Ev (fun k => conf_placed.f k a b nets) (decide (∀ n ∈ nets, ∀ s ∈ n.f0, PlaceS a s)) := by
  refine Ev.bind (conf_spots_s a b nets h) (f := fun k t => conf_placed.l0 k t (t.length : Int) 0 a b nets) ?_
  have hN : (spotsL nets).length ≤ 1000 := by have := spots_len (n := 0) (fun x hx => (h.2 x hx).1); have := h.1; unfold spotsL; omega
  have hS : ∀ (i : Nat) (hi : i < (spotsL nets).length), SmS (spotsL nets)[i].f2 ∧ FairS (spotsL nets)[i].f2 := fun i hi => (spots_all (F := fun s => SmS s ∧ FairS s)).2 (fun n hn s hs => ⟨(h.2 n hn).2 s hs, hF n hn s hs⟩) _ (List.getElem_mem hi)
  have hr : decide (∀ n ∈ nets, ∀ s ∈ n.f0, PlaceS a s) = decide (∀ x ∈ spotsL nets, PlaceS a x.f2) := decide_eq_decide.2 spots_all.symm
  rw [hr]
  generalize spotsL nets = l at *
  refine loopC (n := l.length) (L := fun k i => conf_placed.l0 k l (l.length : Int) i a b nets) (fun i => ∃ h : i < l.length, PlaceS a l[i].f2) false (fun i hi hp r h3 => ?_) (fun i hi hp => ?_) (fun h3 => ?_) (fun h3 => ?_)
  · obtain ⟨_, hp⟩ := hp
    refine Ev.step (fun k => ?_) (conf_placed_l1 l (l.length : Int) i a b nets l[i].f0 l[i].f1 l[i].f2 (hS i hi).1 (hS i hi).2.1 hi hN (r := r) (fun _ => h3) (fun h => absurd hp h))
    show conf_placed.l0 (k + 1) _ _ _ _ _ _ = _
    rw [conf_placed.l0, if_pos (by omega), if_pos (by omega), if_pos (by omega), show rd_T86 l (i : Int) = l[i] from rd_get hi]
  · refine Ev.step (fun k => ?_) (conf_placed_l1 l (l.length : Int) i a b nets l[i].f0 l[i].f1 l[i].f2 (hS i hi).1 (hS i hi).2.1 hi hN (r := false) (fun h => absurd ⟨hi, h⟩ hp) (fun _ => rfl))
    show conf_placed.l0 (k + 1) _ _ _ _ _ _ = _
    rw [conf_placed.l0, if_pos (by omega), if_pos (by omega), if_pos (by omega), show rd_T86 l (i : Int) = l[i] from rd_get hi]
  · rw [decide_eq_true (fun x hx => by obtain ⟨i, hi, rfl⟩ := List.mem_iff_getElem.1 hx; exact (h3 i hi).2)]
    refine Ev.step (f := fun _ => some true) (fun k => ?_) Ev.some'
    show conf_placed.l0 (k + 1) _ _ _ _ _ _ = _
    rw [conf_placed.l0, if_neg (by omega)]
  · obtain ⟨i, hi, hp⟩ := h3
    exact decide_eq_false (fun h => hp ⟨hi, h _ (List.getElem_mem hi)⟩)

end Go.Proofs.Ytopbcamlagdieaa.PStats
