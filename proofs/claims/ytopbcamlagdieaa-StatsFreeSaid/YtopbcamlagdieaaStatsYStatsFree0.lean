/- What this claim rests on, part 8: abstract values, walks of the code over them, what the functions come to; each under its theorem's own conditions. -/
import Derived.Test.YtopbcamlagdieaaStatsZ7
set_option linter.unusedVariables false
set_option linter.unusedSimpArgs false
namespace Go.Proofs.Ytopbcamlagdieaa.PStats
open Go.RowKit Go.Proofs.YtopbcamlagdieaaW.PrintWords Go.Proofs.YtopbcamlagdieaaW.PrintLast Go.Proofs.YtopbcamlagdieaaW.PrintMore Go.Proofs.Ytopbcamlagdieaa.Abs
/-! ### boarderref01_Right: function 67 -/
def boarderref01_Right.f (a0 : Int) : Option (Bool) := if a0 ≥ 0 then (some (decide (a0 < 4294967296))) else (some false)
noncomputable def boarderref01_Right.cx : Cx := ⟨Try.prog, tys, glo, 9, Try.f67, [.tmp 2], 0⟩
set_option maxHeartbeats 16000000 in
set_option maxRecDepth 100000 in
theorem boarderref01_Right.ok {a0 : Int} {r0 : Bool} (H : boarderref01_Right.f a0 = some r0) : CallOK Try.prog glo 67 [.imm (.int .i64 a0)] (.imm (.bool r0)) := by
  unfold boarderref01_Right.f at H
  refine CallOK.of (c := boarderref01_Right.cx) Try.func67 (show (boarderref01_Right.cx).fn.body = some _ from rfl) rfl rfl (Nat.le_of_ble_eq_true rfl) rfl ?_
  repeat' (first
    | ((with_reducible replace H := some_ite H); obtain ⟨_, H⟩ := H)
    | (with_reducible replace H := true_ite H)
    | (with_reducible replace H := false_ite H)
    | ((with_reducible have hb := bool_ite H); clear H; rcases hb with ⟨e_, H⟩ | ⟨e_, H⟩ <;> subst e_)
    | ((with_reducible apply ROps.pure); (case hop => rfl); (case hw => rfl); (case hdst => rfl); (case hd => rfl))
    | (with_reducible apply ROps.nil)
    | (with_reducible apply Runs.seq)
    | (with_reducible apply Runs.region tysOK)
    | (with_reducible apply Runs.scope)
    | (with_reducible apply Runs.inScope)
    | (with_reducible apply Runs.label)
    | ((with_reducible apply ROps.cmp); (case hop => exact cmpX); (case hw => rfl); (case hdst => rfl); (case hd => rfl); (all_goals (intro h; first | (replace H := ite_pos_ h H) | (replace H := ite_neg_ h H) | (replace H := dec_pos h H) | (replace H := dec_neg h H) | (replace H := dec_t h H) | (replace H := dec_f h H) | (replace H := ite_pos_ (Decidable.not_not.1 h) H) | ((try simp only [rdOf] at h); (try simp only [rdOf] at H); (rw [decide_eq_true h] at H)) | ((try simp only [rdOf] at h); (try simp only [rdOf] at H); (rw [decide_eq_false h] at H)) | ((try simp only [rdOf] at h); (try simp only [rdOf] at H); (rw [if_pos h] at H)) | ((try simp only [rdOf] at h); (try simp only [rdOf] at H); (rw [if_neg h] at H)) | contradiction | skip)))
    | ((with_reducible apply ROps.off); (case hw => rfl); (case hdst => rfl); (case hd => rfl))
    | ((with_reducible apply Runs.retP tysOK); (case hrs => rfl); (case h => rfl); (case hr => (cases H; exact refX)); (case hx => rfl))
    | exact leRX)
end Go.Proofs.Ytopbcamlagdieaa.PStats
set_option linter.unusedVariables false
set_option linter.unusedSimpArgs false
namespace Go.Proofs.Ytopbcamlagdieaa.PStats
open Go.RowKit Go.Proofs.YtopbcamlagdieaaW.PrintWords Go.Proofs.YtopbcamlagdieaaW.PrintLast Go.Proofs.YtopbcamlagdieaaW.PrintMore Go.Proofs.Ytopbcamlagdieaa.Abs
/-! ### boarderref07_Right: function 26 -/
def boarderref07_Right.f (a0 : ByteArray) : Option (Bool) := if (a0.size : Int) < 3 then (some false) else (if 0 < (a0.size : Int) then (if (bt a0 0) = 105 then (if (a0.size : Int) ≤ 256 then (some true) else (if (bt a0 0) = 104 then (some (decide ((a0.size : Int) ≤ 18))) else (some false))) else (if (bt a0 0) = 104 then (some (decide ((a0.size : Int) ≤ 18))) else (some false))) else (none))
noncomputable def boarderref07_Right.cx : Cx := ⟨Try.prog, tys, glo, 24, Try.f26, [.tmp 2], 0⟩
set_option maxHeartbeats 16000000 in
set_option maxRecDepth 100000 in
theorem boarderref07_Right.ok {a0 : ByteArray} {r0 : Bool} (H : boarderref07_Right.f a0 = some r0) : CallOK Try.prog glo 26 [.imm (.string a0)] (.imm (.bool r0)) := by
  unfold boarderref07_Right.f at H
  refine CallOK.of (c := boarderref07_Right.cx) Try.func26 (show (boarderref07_Right.cx).fn.body = some _ from rfl) rfl rfl (Nat.le_of_ble_eq_true rfl) rfl ?_
  repeat' (first
    | ((with_reducible replace H := some_ite H); obtain ⟨_, H⟩ := H)
    | (with_reducible replace H := true_ite H)
    | (with_reducible replace H := false_ite H)
    | ((with_reducible have hb := bool_ite H); clear H; rcases hb with ⟨e_, H⟩ | ⟨e_, H⟩ <;> subst e_)
    | ((with_reducible apply ROps.pure); (case hop => rfl); (case hw => rfl); (case hdst => rfl); (case hd => rfl))
    | (with_reducible apply ROps.nil)
    | (with_reducible apply Runs.seq)
    | (with_reducible apply Runs.region tysOK)
    | (with_reducible apply Runs.skip)
    | (with_reducible apply Runs.scope)
    | (with_reducible apply Runs.inScope)
    | (with_reducible apply Runs.label)
    | ((with_reducible apply Runs.condT); (case ho => rfl))
    | ((with_reducible apply Runs.condF); (case ho => rfl))
    | ((with_reducible apply ROps.cmp); (case hop => exact cmpX); (case hw => rfl); (case hdst => rfl); (case hd => rfl); (all_goals (intro h; first | (replace H := ite_pos_ h H) | (replace H := ite_neg_ h H) | (replace H := dec_pos h H) | (replace H := dec_neg h H) | (replace H := dec_t h H) | (replace H := dec_f h H) | (replace H := beq_pos h H) | (replace H := beq_neg h H) | (replace H := beq_tt h H) | (replace H := beq_ff h H) | (replace H := ite_pos_ (Decidable.not_not.1 h) H) | (replace H := beq_pos (Decidable.not_not.1 h) H) | (replace H := beq_tt (Decidable.not_not.1 h) H) | ((try simp only [rdOf] at h); (try simp only [rdOf] at H); (rw [decide_eq_true h] at H)) | ((try simp only [rdOf] at h); (try simp only [rdOf] at H); (rw [decide_eq_false h] at H)) | ((try simp only [rdOf] at h); (try simp only [rdOf] at H); (rw [beq_t h] at H)) | ((try simp only [rdOf] at h); (try simp only [rdOf] at H); (rw [beq_f h] at H)) | ((try simp only [rdOf] at h); (try simp only [rdOf] at H); (rw [bne_t h] at H)) | ((try simp only [rdOf] at h); (try simp only [rdOf] at H); (rw [bne_f h] at H)) | ((try simp only [rdOf] at h); (try simp only [rdOf] at H); (rw [beq_t (Decidable.not_not.1 h)] at H)) | ((try simp only [rdOf] at h); (try simp only [rdOf] at H); (rw [bne_f (Decidable.not_not.1 h)] at H)) | ((try simp only [rdOf] at h); (try simp only [rdOf] at H); (rw [if_pos h] at H)) | ((try simp only [rdOf] at h); (try simp only [rdOf] at H); (rw [if_neg h] at H)) | contradiction | skip)))
    | ((with_reducible apply ROps.val); (case hop => exact valX); (case hw => rfl); (case hdst => rfl); (case hd => rfl))
    | ((first | (with_reducible apply ROps.eqS; case hop => rfl) | (with_reducible apply ROps.neS; case hop => rfl)); (case ht => rfl); (case hx => rfl); (case hy => rfl); (case hl => rfl); (case hr => rfl); (case hw => rfl); (case hdst => rfl); (case hd => rfl); (all_goals (intro h; first | (replace H := ite_posF H h) | (replace H := ite_negF H h) | (dsimp only [eqP, eqA] at h) | skip)))
    | ((with_reducible apply ROps.off); (case hw => rfl); (case hdst => rfl); (case hd => rfl))
    | ((with_reducible apply Runs.retP tysOK); (case hrs => rfl); (case h => rfl); (case hr => (cases H; exact refX)); (case hx => rfl))
    | exact leRX)
end Go.Proofs.Ytopbcamlagdieaa.PStats
set_option linter.unusedVariables false
set_option linter.unusedSimpArgs false
namespace Go.Proofs.Ytopbcamlagdieaa.PStats
open Go.RowKit Go.Proofs.YtopbcamlagdieaaW.PrintWords Go.Proofs.YtopbcamlagdieaaW.PrintLast Go.Proofs.YtopbcamlagdieaaW.PrintMore Go.Proofs.Ytopbcamlagdieaa.Abs
/-! ### boarderref01_Size: function 81 -/
def boarderref01_Size.l0 : Nat → Int → Int → Option (Int)
  | 0, _, _ => none
  | k + 1, x3, x4 => if x4 < 32 then (boarderref01_Size.l0 k (wrap64 (x3 * 2)) (wrap64 (x4 + 1))) else (some x3)
def boarderref01_Size.f (k : Nat) (a0 : Int) : Option (Int) := boarderref01_Size.l0 k 1 a0
noncomputable def boarderref01_Size.cx : Cx := ⟨Try.prog, tys, glo, 13, Try.f81, [.tmp 2], 0⟩
set_option maxHeartbeats 16000000 in
set_option maxRecDepth 100000 in
theorem boarderref01_Size.ok {k : Nat} {a0 : Int} {r0 : Int} (H : boarderref01_Size.f k a0 = some r0) : CallOK Try.prog glo 81 [.imm (.int .i64 a0)] (.imm (.int .i64 r0)) := by
  unfold boarderref01_Size.f at H
  refine CallOK.of (c := boarderref01_Size.cx) Try.func81 (show (boarderref01_Size.cx).fn.body = some _ from rfl) rfl rfl (Nat.le_of_ble_eq_true rfl) rfl ?_
  repeat' (first
    | ((with_reducible replace H := some_ite H); obtain ⟨_, H⟩ := H)
    | (with_reducible replace H := true_ite H)
    | (with_reducible replace H := false_ite H)
    | ((with_reducible have hb := bool_ite H); clear H; rcases hb with ⟨e_, H⟩ | ⟨e_, H⟩ <;> subst e_)
    | ((with_reducible apply ROps.pure); (case hop => rfl); (case hw => rfl); (case hdst => rfl); (case hd => rfl))
    | (with_reducible apply ROps.nil)
    | (with_reducible apply Runs.seq)
    | (with_reducible apply Runs.region tysOK)
    | (with_reducible apply Runs.block)
    | (with_reducible apply Runs.skip)
    | (with_reducible apply Runs.inBlock)
    | (with_reducible apply Runs.scope)
    | (with_reducible apply Runs.inScope)
    | (with_reducible apply Runs.label)
    | ((with_reducible apply Runs.condT); (case ho => rfl))
    | ((with_reducible apply Runs.condF); (case ho => rfl))
    | ((with_reducible apply Runs.exit); (case he => rfl))
    | ((with_reducible apply ROps.cmp); (case hop => exact cmpX); (case hw => rfl); (case hdst => rfl); (case hd => rfl); (all_goals (intro h; first | (replace H := ite_pos_ h H) | (replace H := ite_neg_ h H) | (replace H := dec_pos h H) | (replace H := dec_neg h H) | (replace H := dec_t h H) | (replace H := dec_f h H) | (replace H := ite_pos_ (Decidable.not_not.1 h) H) | ((try simp only [rdOf] at h); (try simp only [rdOf] at H); (rw [decide_eq_true h] at H)) | ((try simp only [rdOf] at h); (try simp only [rdOf] at H); (rw [decide_eq_false h] at H)) | ((try simp only [rdOf] at h); (try simp only [rdOf] at H); (rw [if_pos h] at H)) | ((try simp only [rdOf] at h); (try simp only [rdOf] at H); (rw [if_neg h] at H)) | contradiction | skip)))
    | ((with_reducible apply ROps.val); (case hop => exact valX); (case hw => rfl); (case hdst => rfl); (case hd => rfl))
    | ((with_reducible apply Runs.loopK2 ((fun kk (v0_3 : Int) (v0_4 : Int) => boarderref01_Size.l0 kk v0_3 v0_4)) [] [] (fun b v0_3 v0_4 => [(3, .imm (.int .i64 v0_3)), (4, .imm (.int .i64 v0_4))]) (fun v0_3 v0_4 => []) _ _ _ [] H); (case h0 => intros; rfl); (any_goals (clear H; intro k0 hk0 ih0 v0_3 v0_4 H; replace H : boarderref01_Size.l0 (k0 + 1) v0_3 v0_4 = some _ := H; rw [boarderref01_Size.l0] at H)))
    | (with_reducible apply ih0 _ _ _ [] _ _ (by omega) H)
    | ((with_reducible apply Runs.retP tysOK); (case hrs => rfl); (case h => rfl); (case hr => (cases H; exact refX)); (case hx => rfl))
    | exact leRX)
end Go.Proofs.Ytopbcamlagdieaa.PStats
set_option linter.unusedVariables false
set_option linter.unusedSimpArgs false
namespace Go.Proofs.Ytopbcamlagdieaa.PStats
open Go.RowKit Go.Proofs.YtopbcamlagdieaaW.PrintWords Go.Proofs.YtopbcamlagdieaaW.PrintLast Go.Proofs.YtopbcamlagdieaaW.PrintMore Go.Proofs.Ytopbcamlagdieaa.Abs
/-! ### boarderref01_Fair: function 79 -/
def boarderref01_Fair.f (k : Nat) (a0 : Int) (a1 : Int) : Option (Bool) := if a1 ≥ 0 then (if a1 ≤ 32 then ((boarderref01_Right.f a0).bind fun t365 => (if t365 = true then ((boarderref01_Size.f k a1).bind fun t366 => (if t366 = 0 then (none) else (some ((Int.tmod a0 t366) == 0)))) else (some false))) else (some false)) else (some false)
noncomputable def boarderref01_Fair.cx : Cx := ⟨Try.prog, tys, glo, 22, Try.f79, [.tmp 4], 0⟩
set_option maxHeartbeats 16000000 in
set_option maxRecDepth 100000 in
theorem boarderref01_Fair.ok {k : Nat} {a0 : Int} {a1 : Int} {r0 : Bool} (H : boarderref01_Fair.f k a0 a1 = some r0) : CallOK Try.prog glo 79 [.imm (.int .i64 a0), .imm (.int .i64 a1)] (.imm (.bool r0)) := by
  unfold boarderref01_Fair.f at H
  refine CallOK.of (c := boarderref01_Fair.cx) Try.func79 (show (boarderref01_Fair.cx).fn.body = some _ from rfl) rfl rfl (Nat.le_of_ble_eq_true rfl) rfl ?_
  repeat' (first
    | ((with_reducible replace H := some_ite H); obtain ⟨_, H⟩ := H)
    | ((with_reducible replace H := none_ite H); obtain ⟨_, H⟩ := H)
    | (with_reducible replace H := true_ite H)
    | (with_reducible replace H := false_ite H)
    | ((with_reducible have hb := bool_ite H); clear H; rcases hb with ⟨e_, H⟩ | ⟨e_, H⟩ <;> subst e_)
    | ((with_reducible apply ROps.pure); (case hop => rfl); (case hw => rfl); (case hdst => rfl); (case hd => rfl))
    | (with_reducible apply ROps.nil)
    | (with_reducible apply Runs.seq)
    | (with_reducible apply Runs.region tysOK)
    | (with_reducible apply Runs.scope)
    | (with_reducible apply Runs.inScope)
    | (with_reducible apply Runs.label)
    | ((with_reducible apply ROps.cmp); (case hop => exact cmpX); (case hw => rfl); (case hdst => rfl); (case hd => rfl); (all_goals (intro h; first | (replace H := ite_pos_ h H) | (replace H := ite_neg_ h H) | (replace H := dec_pos h H) | (replace H := dec_neg h H) | (replace H := dec_t h H) | (replace H := dec_f h H) | (replace H := beq_pos h H) | (replace H := beq_neg h H) | (replace H := beq_tt h H) | (replace H := beq_ff h H) | (replace H := ite_pos_ (Decidable.not_not.1 h) H) | (replace H := beq_pos (Decidable.not_not.1 h) H) | (replace H := beq_tt (Decidable.not_not.1 h) H) | ((try simp only [rdOf] at h); (try simp only [rdOf] at H); (rw [decide_eq_true h] at H)) | ((try simp only [rdOf] at h); (try simp only [rdOf] at H); (rw [decide_eq_false h] at H)) | ((try simp only [rdOf] at h); (try simp only [rdOf] at H); (rw [beq_t h] at H)) | ((try simp only [rdOf] at h); (try simp only [rdOf] at H); (rw [beq_f h] at H)) | ((try simp only [rdOf] at h); (try simp only [rdOf] at H); (rw [bne_t h] at H)) | ((try simp only [rdOf] at h); (try simp only [rdOf] at H); (rw [bne_f h] at H)) | ((try simp only [rdOf] at h); (try simp only [rdOf] at H); (rw [beq_t (Decidable.not_not.1 h)] at H)) | ((try simp only [rdOf] at h); (try simp only [rdOf] at H); (rw [bne_f (Decidable.not_not.1 h)] at H)) | ((try simp only [rdOf] at h); (try simp only [rdOf] at H); (rw [if_pos h] at H)) | ((try simp only [rdOf] at h); (try simp only [rdOf] at H); (rw [if_neg h] at H)) | contradiction | skip)))
    | ((with_reducible apply ROps.val); (case hop => exact valX); (case hw => rfl); (case hdst => rfl); (case hd => rfl))
    | ((first | (with_reducible apply ROps.eqS; case hop => rfl) | (with_reducible apply ROps.neS; case hop => rfl)); (case ht => rfl); (case hx => rfl); (case hy => rfl); (case hl => rfl); (case hr => rfl); (case hw => rfl); (case hdst => rfl); (case hd => rfl); (all_goals (intro h; first | (replace H := ite_posF H h) | (replace H := ite_negF H h) | (dsimp only [eqP, eqA] at h) | skip)))
    | ((with_reducible apply ROps.off); (case hw => rfl); (case hdst => rfl); (case hd => rfl))
    | ((with_reducible have hB : (boarderref01_Right.f _).bind _ = some _ := H); clear hB; (replace H := bind_some' H); (obtain ⟨t_, H1, H⟩ := H); (try dsimp only at H); (with_reducible apply ROps.call); (case hop => rfl); (case hc => exact boarderref01_Right.ok H1); (case ha => exact argsX); (case hw => rfl); (case hdst => rfl); (case hd => rfl))
    | ((with_reducible have hB : (boarderref01_Size.f _ _).bind _ = some _ := H); clear hB; (replace H := bind_some' H); (obtain ⟨t_, H1, H⟩ := H); (try dsimp only at H); (with_reducible apply ROps.call); (case hop => rfl); (case hc => exact boarderref01_Size.ok H1); (case ha => exact argsX); (case hw => rfl); (case hdst => rfl); (case hd => rfl))
    | ((with_reducible apply Runs.retP tysOK); (case hrs => rfl); (case h => rfl); (case hr => (cases H; exact refX)); (case hx => rfl))
    | exact leRX)
end Go.Proofs.Ytopbcamlagdieaa.PStats
set_option linter.unusedVariables false
set_option linter.unusedSimpArgs false
namespace Go.Proofs.Ytopbcamlagdieaa.PStats
open Go.RowKit Go.Proofs.YtopbcamlagdieaaW.PrintWords Go.Proofs.YtopbcamlagdieaaW.PrintLast Go.Proofs.YtopbcamlagdieaaW.PrintMore Go.Proofs.Ytopbcamlagdieaa.Abs
/-! ### boarderref13_subnet: function 68 -/
mutual
def boarderref13_subnet.j0 : Nat → Bool → Int → Int → List (S76) → List (S65) → Int → Int → Int → Option (Bool)
  | 0, _, _, _, _, _, _, _, _ => none
  | k + 1, x32, x368000, x368001, x368002, x368003, x368004, x368005, x368006 => if x32 = true then (some false) else (if x368004 < 0 then (boarderref13_subnet.j1 k true x368000 x368001 x368002 x368003 x368004 x368005 x368006) else (if x368004 > 99 then (boarderref13_subnet.j1 k true x368000 x368001 x368002 x368003 x368004 x368005 x368006) else (if x368006 < 1 then (boarderref13_subnet.j1 k true x368000 x368001 x368002 x368003 x368004 x368005 x368006) else (boarderref13_subnet.j1 k (decide (x368006 > 2147483648)) x368000 x368001 x368002 x368003 x368004 x368005 x368006))))
def boarderref13_subnet.j1 : Nat → Bool → Int → Int → List (S76) → List (S65) → Int → Int → Int → Option (Bool)
  | 0, _, _, _, _, _, _, _, _ => none
  | k + 1, x50, x368000, x368001, x368002, x368003, x368004, x368005, x368006 => if x50 = true then (some false) else (boarderref13_subnet.l0 k 0 x368000 x368001 x368002 x368003 x368004 x368005 x368006)
def boarderref13_subnet.l0 : Nat → Int → Int → Int → List (S76) → List (S65) → Int → Int → Int → Option (Bool)
  | 0, _, _, _, _, _, _, _, _ => none
  | k + 1, x3, x368000, x368001, x368002, x368003, x368004, x368005, x368006 => if x3 < (x368002.length : Int) then (if 0 ≤ x3 then (if ((rd_T76 x368002 x3).f1) < ((rd_T76 x368002 x3).f0) then (some false) else (boarderref13_subnet.l0 k (wrap64 (x3 + 1)) x368000 x368001 x368002 x368003 x368004 x368005 x368006)) else (none)) else (boarderref13_subnet.l1 k 0 x368000 x368001 x368002 x368003 x368004 x368005 x368006)
def boarderref13_subnet.l1 : Nat → Int → Int → Int → List (S76) → List (S65) → Int → Int → Int → Option (Bool)
  | 0, _, _, _, _, _, _, _, _ => none
  | k + 1, x4, x368000, x368001, x368002, x368003, x368004, x368005, x368006 => if x4 < (x368003.length : Int) then (if 0 ≤ x4 then ((boarderref07_Right.f ((rd_T65 x368003 x4).f0)).bind fun t372 => (if t372 = true then (boarderref13_subnet.l1 k (wrap64 (x4 + 1)) x368000 x368001 x368002 x368003 x368004 x368005 x368006) else (some false))) else (none)) else (some true)
end
def boarderref13_subnet.f (k : Nat) (a0_0 : Int) (a0_1 : Int) (l0_2 : List (S76)) (l0_3 : List (S65)) (a0_4 : Int) (a0_5 : Int) (a0_6 : Int) : Option (Bool) := (boarderref01_Fair.f k a0_0 a0_1).bind fun t368 => (if t368 = true then (if a0_1 < 8 then (boarderref13_subnet.j0 k true a0_0 a0_1 l0_2 l0_3 a0_4 a0_5 a0_6) else (if a0_1 > 30 then (boarderref13_subnet.j0 k true a0_0 a0_1 l0_2 l0_3 a0_4 a0_5 a0_6) else (if (l0_2.length : Int) > 4 then (boarderref13_subnet.j0 k true a0_0 a0_1 l0_2 l0_3 a0_4 a0_5 a0_6) else (boarderref13_subnet.j0 k (decide ((l0_3.length : Int) > 8)) a0_0 a0_1 l0_2 l0_3 a0_4 a0_5 a0_6)))) else (boarderref13_subnet.j0 k true a0_0 a0_1 l0_2 l0_3 a0_4 a0_5 a0_6))
noncomputable def boarderref13_subnet.cx : Cx := ⟨Try.prog, tys, glo, 86, Try.f68, [.tmp 2], 0⟩
set_option maxHeartbeats 16000000 in
set_option maxRecDepth 100000 in
theorem boarderref13_subnet.ok {k : Nat} {a0_0 : Int} {a0_1 : Int} {l0_2 : List (S76)} {l0_3 : List (S65)} {a0_4 : Int} {a0_5 : Int} {a0_6 : Int} {r0 : Bool} (H : boarderref13_subnet.f k a0_0 a0_1 l0_2 l0_3 a0_4 a0_5 a0_6 = some r0) : CallOK Try.prog glo 68 [.agg [.imm (.int .i64 a0_0), .imm (.int .i64 a0_1), vS76 l0_2, vS65 l0_3, .imm (.int .i64 a0_4), .imm (.int .i64 a0_5), .imm (.int .i64 a0_6)]] (.imm (.bool r0)) := by
  unfold boarderref13_subnet.f at H
  refine CallOK.of (c := boarderref13_subnet.cx) Try.func68 (show (boarderref13_subnet.cx).fn.body = some _ from rfl) rfl rfl (Nat.le_of_ble_eq_true rfl) rfl ?_
  repeat' (first
    | ((with_reducible have hJ : boarderref13_subnet.j0 k _ _ _ _ _ _ _ _ = some _ := H); clear hJ; (rcases k with _ | k); (rw [boarderref13_subnet.j0] at H; cases H); (rw [boarderref13_subnet.j0] at H))
    | ((with_reducible have hJ : boarderref13_subnet.j0 k0 _ _ _ _ _ _ _ _ = some _ := H); clear hJ; (rcases k0 with _ | k0); (rw [boarderref13_subnet.j0] at H; cases H); (rw [boarderref13_subnet.j0] at H))
    | ((with_reducible have hJ : boarderref13_subnet.j0 k1 _ _ _ _ _ _ _ _ = some _ := H); clear hJ; (rcases k1 with _ | k1); (rw [boarderref13_subnet.j0] at H; cases H); (rw [boarderref13_subnet.j0] at H))
    | ((with_reducible have hJ : boarderref13_subnet.j1 k _ _ _ _ _ _ _ _ = some _ := H); clear hJ; (rcases k with _ | k); (rw [boarderref13_subnet.j1] at H; cases H); (rw [boarderref13_subnet.j1] at H))
    | ((with_reducible have hJ : boarderref13_subnet.j1 k0 _ _ _ _ _ _ _ _ = some _ := H); clear hJ; (rcases k0 with _ | k0); (rw [boarderref13_subnet.j1] at H; cases H); (rw [boarderref13_subnet.j1] at H))
    | ((with_reducible have hJ : boarderref13_subnet.j1 k1 _ _ _ _ _ _ _ _ = some _ := H); clear hJ; (rcases k1 with _ | k1); (rw [boarderref13_subnet.j1] at H; cases H); (rw [boarderref13_subnet.j1] at H))
    | ((with_reducible replace H := some_ite H); obtain ⟨_, H⟩ := H)
    | (with_reducible replace H := true_ite H)
    | (with_reducible replace H := false_ite H)
    | ((with_reducible have hb := bool_ite H); clear H; rcases hb with ⟨e_, H⟩ | ⟨e_, H⟩ <;> subst e_)
    | ((first | with_reducible apply ROps.pure | with_reducible apply DOps.pure); (case hop => rfl); (case hw => rfl); (case hdst => rfl); (case hd => rfl))
    | (first | with_reducible apply ROps.nil | with_reducible apply DOps.nil)
    | (with_reducible apply Runs.seq)
    | (with_reducible apply Runs.region tysOK)
    | ((with_reducible apply Runs.drawnE [] tysOK mixed); (case hB => kernel_rfl))
    | (with_reducible apply Runs.block)
    | (with_reducible apply Runs.skip)
    | (with_reducible apply Runs.inBlock)
    | (with_reducible apply Runs.scope)
    | (with_reducible apply Runs.inScope)
    | (with_reducible apply Runs.label)
    | ((with_reducible apply Runs.condT); (case ho => rfl))
    | ((with_reducible apply Runs.condF); (case ho => rfl))
    | ((with_reducible apply Runs.exit); (case he => rfl))
    | ((first | with_reducible apply ROps.cmp | with_reducible apply DOps.cmp); (case hop => exact cmpX); (case hw => rfl); (case hdst => rfl); (case hd => rfl); (all_goals (intro h; first | (replace H := ite_pos_ h H) | (replace H := ite_neg_ h H) | (replace H := dec_pos h H) | (replace H := dec_neg h H) | (replace H := dec_t h H) | (replace H := dec_f h H) | (replace H := ite_pos_ (Decidable.not_not.1 h) H) | ((try simp only [rd_T65, rd_T76, rdOf] at h); (try simp only [rd_T65, rd_T76, rdOf] at H); (rw [decide_eq_true h] at H)) | ((try simp only [rd_T65, rd_T76, rdOf] at h); (try simp only [rd_T65, rd_T76, rdOf] at H); (rw [decide_eq_false h] at H)) | ((try simp only [rd_T65, rd_T76, rdOf] at h); (try simp only [rd_T65, rd_T76, rdOf] at H); (rw [if_pos h] at H)) | ((try simp only [rd_T65, rd_T76, rdOf] at h); (try simp only [rd_T65, rd_T76, rdOf] at H); (rw [if_neg h] at H)) | contradiction | skip)))
    | ((first | with_reducible apply ROps.val | with_reducible apply DOps.val); (case hop => exact valX); (case hw => rfl); (case hdst => rfl); (case hd => rfl))
    | ((first | with_reducible apply ROps.idx | with_reducible apply DOps.idx); (case hop => rfl); (case hx => rfl); (case hi => rfl); (case he => rfl); (case hw => rfl); (case hdst => rfl); (case hd => rfl); (case h0 => first | assumption | omega); (case h1 => first | assumption | omega))
    | ((first | with_reducible apply ROps.box | with_reducible apply DOps.box); (case hop => rfl); (case hx => rfl); (case hrf => rfl); (case hw => rfl); (all_goals try rfl))
    | ((first | with_reducible apply ROps.off | with_reducible apply DOps.off); (case hw => rfl); (case hdst => rfl); (case hd => rfl))
    | ((with_reducible have hB : (boarderref07_Right.f _).bind _ = some _ := H); clear hB; (replace H := bind_some' H); (obtain ⟨t_, H1, H⟩ := H); (try dsimp only at H); (first | with_reducible apply ROps.call | with_reducible apply DOps.call); (case hop => rfl); (case hc => exact boarderref07_Right.ok H1); (case ha => exact argsX); (case hw => rfl); (case hdst => rfl); (case hd => rfl))
    | ((with_reducible have hB : (boarderref01_Fair.f _ _ _).bind _ = some _ := H); clear hB; (replace H := bind_some' H); (obtain ⟨t_, H1, H⟩ := H); (try dsimp only at H); (first | with_reducible apply ROps.call | with_reducible apply DOps.call); (case hop => rfl); (case hc => exact boarderref01_Fair.ok H1); (case ha => exact argsX); (case hw => rfl); (case hdst => rfl); (case hd => rfl))
    | ((with_reducible apply Runs.loopK1 ((fun i0 i1 i2 i3 i4 i5 i6 => fun kk (v0_3 : Int) => boarderref13_subnet.l0 kk v0_3 i0 i1 i2 i3 i4 i5 i6) _ _ _ _ _ _ _) [1] [] (fun b v0_3 => [(3, .imm (.int .i64 v0_3))]) (fun v0_3 => []) _ _ [] H); (case h0 => intros; rfl); (any_goals (clear H; intro k0 hk0 ih0 v0_3 H; replace H : boarderref13_subnet.l0 (k0 + 1) v0_3 _ _ _ _ _ _ _ = some _ := H; rw [boarderref13_subnet.l0] at H)))
    | (with_reducible apply ih0 _ _ [] _ _ (by omega) H)
    | ((with_reducible apply Runs.loopK1 ((fun i0 i1 i2 i3 i4 i5 i6 => fun kk (v1_4 : Int) => boarderref13_subnet.l1 kk v1_4 i0 i1 i2 i3 i4 i5 i6) _ _ _ _ _ _ _) [1] [] (fun b v1_4 => [(4, .imm (.int .i64 v1_4))]) (fun v1_4 => []) _ _ [] H); (case h0 => intros; rfl); (any_goals (clear H; intro k1 hk1 ih1 v1_4 H; replace H : boarderref13_subnet.l1 (k1 + 1) v1_4 _ _ _ _ _ _ _ = some _ := H; rw [boarderref13_subnet.l1] at H)))
    | (with_reducible apply ih1 _ _ [] _ _ (by omega) H)
    | ((with_reducible apply Runs.retP tysOK); (case hrs => rfl); (case h => rfl); (case hr => (cases H; exact refX)); (case hx => rfl))
    | exact leRX)
end Go.Proofs.Ytopbcamlagdieaa.PStats
set_option linter.unusedVariables false
set_option linter.unusedSimpArgs false
namespace Go.Proofs.Ytopbcamlagdieaa.PStats
open Go.RowKit Go.Proofs.YtopbcamlagdieaaW.PrintWords Go.Proofs.YtopbcamlagdieaaW.PrintLast Go.Proofs.YtopbcamlagdieaaW.PrintMore Go.Proofs.Ytopbcamlagdieaa.Abs
/-! ### boarderref13_Form: function 45 -/
mutual
def boarderref13_Form.j0 : Nat → Bool → Int → Int → List (S56) → Option (Bool)
  | 0, _, _, _, _ => none
  | k + 1, x24, x374000, x374001, x374002 => if x24 = true then (some false) else (boarderref13_Form.l0 k 0 x374000 x374001 x374002)
def boarderref13_Form.l0 : Nat → Int → Int → Int → List (S56) → Option (Bool)
  | 0, _, _, _, _ => none
  | k + 1, x3, x374000, x374001, x374002 => if x3 < (x374002.length : Int) then (if 0 ≤ x3 then (if (((rd_T56 x374002 x3).f0).length : Int) = 0 then (boarderref13_Form.j2 k x3 true x374000 x374001 x374002) else (boarderref13_Form.j2 k x3 (decide ((((rd_T56 x374002 x3).f0).length : Int) > 4)) x374000 x374001 x374002)) else (none)) else (some true)
def boarderref13_Form.j2 : Nat → Int → Bool → Int → Int → List (S56) → Option (Bool)
  | 0, _, _, _, _, _ => none
  | k + 1, x3, x49, x374000, x374001, x374002 => if x49 = true then (some false) else (boarderref13_Form.l1 k x3 0 x374000 x374001 x374002)
def boarderref13_Form.l1 : Nat → Int → Int → Int → Int → List (S56) → Option (Bool)
  | 0, _, _, _, _, _ => none
  | k + 1, x3, x4, x374000, x374001, x374002 => if 0 ≤ x3 then (if x3 < (x374002.length : Int) then (if x4 < (((rd_T56 x374002 x3).f0).length : Int) then (if 0 ≤ x4 then ((boarderref13_subnet.f k ((rd_T60 ((rd_T56 x374002 x3).f0) x4).f0) ((rd_T60 ((rd_T56 x374002 x3).f0) x4).f1) ((rd_T60 ((rd_T56 x374002 x3).f0) x4).f2) ((rd_T60 ((rd_T56 x374002 x3).f0) x4).f3) ((rd_T60 ((rd_T56 x374002 x3).f0) x4).f4) ((rd_T60 ((rd_T56 x374002 x3).f0) x4).f5) ((rd_T60 ((rd_T56 x374002 x3).f0) x4).f6)).bind fun t380 => (if t380 = true then (boarderref13_Form.l1 k x3 (wrap64 (x4 + 1)) x374000 x374001 x374002) else (some false))) else (none)) else (boarderref13_Form.l0 k (wrap64 (x3 + 1)) x374000 x374001 x374002)) else (none)) else (none)
end
def boarderref13_Form.f (k : Nat) (a0_0 : Int) (a0_1 : Int) (l0_2 : List (S56)) : Option (Bool) := (boarderref01_Right.f a0_0).bind fun t374 => (if t374 = true then (if a0_1 < 1 then (boarderref13_Form.j0 k true a0_0 a0_1 l0_2) else (if a0_1 > 2147483648 then (boarderref13_Form.j0 k true a0_0 a0_1 l0_2) else (boarderref13_Form.j0 k (decide ((l0_2.length : Int) > 4)) a0_0 a0_1 l0_2))) else (boarderref13_Form.j0 k true a0_0 a0_1 l0_2))
noncomputable def boarderref13_Form.cx : Cx := ⟨Try.prog, tys, glo, 72, Try.f45, [.tmp 2], 0⟩
set_option maxHeartbeats 16000000 in
set_option maxRecDepth 100000 in
theorem boarderref13_Form.ok {k : Nat} {a0_0 : Int} {a0_1 : Int} {l0_2 : List (S56)} {r0 : Bool} (H : boarderref13_Form.f k a0_0 a0_1 l0_2 = some r0) : CallOK Try.prog glo 45 [.agg [.imm (.int .i64 a0_0), .imm (.int .i64 a0_1), vS56 l0_2]] (.imm (.bool r0)) := by
  unfold boarderref13_Form.f at H
  refine CallOK.of (c := boarderref13_Form.cx) Try.func45 (show (boarderref13_Form.cx).fn.body = some _ from rfl) rfl rfl (Nat.le_of_ble_eq_true rfl) rfl ?_
  repeat' (first
    | ((with_reducible have hJ : boarderref13_Form.j0 k _ _ _ _ = some _ := H); clear hJ; (rcases k with _ | k); (rw [boarderref13_Form.j0] at H; cases H); (rw [boarderref13_Form.j0] at H))
    | ((with_reducible have hJ : boarderref13_Form.j0 k0 _ _ _ _ = some _ := H); clear hJ; (rcases k0 with _ | k0); (rw [boarderref13_Form.j0] at H; cases H); (rw [boarderref13_Form.j0] at H))
    | ((with_reducible have hJ : boarderref13_Form.j0 k1 _ _ _ _ = some _ := H); clear hJ; (rcases k1 with _ | k1); (rw [boarderref13_Form.j0] at H; cases H); (rw [boarderref13_Form.j0] at H))
    | ((with_reducible have hJ : boarderref13_Form.j2 k _ _ _ _ _ = some _ := H); clear hJ; (rcases k with _ | k); (rw [boarderref13_Form.j2] at H; cases H); (rw [boarderref13_Form.j2] at H))
    | ((with_reducible have hJ : boarderref13_Form.j2 k0 _ _ _ _ _ = some _ := H); clear hJ; (rcases k0 with _ | k0); (rw [boarderref13_Form.j2] at H; cases H); (rw [boarderref13_Form.j2] at H))
    | ((with_reducible have hJ : boarderref13_Form.j2 k1 _ _ _ _ _ = some _ := H); clear hJ; (rcases k1 with _ | k1); (rw [boarderref13_Form.j2] at H; cases H); (rw [boarderref13_Form.j2] at H))
    | ((with_reducible replace H := some_ite H); obtain ⟨_, H⟩ := H)
    | (with_reducible replace H := true_ite H)
    | (with_reducible replace H := false_ite H)
    | ((with_reducible have hb := bool_ite H); clear H; rcases hb with ⟨e_, H⟩ | ⟨e_, H⟩ <;> subst e_)
    | ((with_reducible apply ROps.pure); (case hop => rfl); (case hw => rfl); (case hdst => rfl); (case hd => rfl))
    | (with_reducible apply ROps.nil)
    | (with_reducible apply Runs.seq)
    | (with_reducible apply Runs.region tysOK)
    | (with_reducible apply Runs.block)
    | (with_reducible apply Runs.skip)
    | (with_reducible apply Runs.inBlock)
    | (with_reducible apply Runs.scope)
    | (with_reducible apply Runs.inScope)
    | (with_reducible apply Runs.label)
    | ((with_reducible apply Runs.condT); (case ho => rfl))
    | ((with_reducible apply Runs.condF); (case ho => rfl))
    | ((with_reducible apply Runs.exit); (case he => rfl))
    | ((with_reducible apply ROps.cmp); (case hop => exact cmpX); (case hw => rfl); (case hdst => rfl); (case hd => rfl); (all_goals (intro h; first | (replace H := ite_pos_ h H) | (replace H := ite_neg_ h H) | (replace H := dec_pos h H) | (replace H := dec_neg h H) | (replace H := dec_t h H) | (replace H := dec_f h H) | (replace H := beq_pos h H) | (replace H := beq_neg h H) | (replace H := beq_tt h H) | (replace H := beq_ff h H) | (replace H := ite_pos_ (Decidable.not_not.1 h) H) | (replace H := beq_pos (Decidable.not_not.1 h) H) | (replace H := beq_tt (Decidable.not_not.1 h) H) | ((try simp only [rd_T56, rd_T60, rdOf] at h); (try simp only [rd_T56, rd_T60, rdOf] at H); (rw [decide_eq_true h] at H)) | ((try simp only [rd_T56, rd_T60, rdOf] at h); (try simp only [rd_T56, rd_T60, rdOf] at H); (rw [decide_eq_false h] at H)) | ((try simp only [rd_T56, rd_T60, rdOf] at h); (try simp only [rd_T56, rd_T60, rdOf] at H); (rw [beq_t h] at H)) | ((try simp only [rd_T56, rd_T60, rdOf] at h); (try simp only [rd_T56, rd_T60, rdOf] at H); (rw [beq_f h] at H)) | ((try simp only [rd_T56, rd_T60, rdOf] at h); (try simp only [rd_T56, rd_T60, rdOf] at H); (rw [bne_t h] at H)) | ((try simp only [rd_T56, rd_T60, rdOf] at h); (try simp only [rd_T56, rd_T60, rdOf] at H); (rw [bne_f h] at H)) | ((try simp only [rd_T56, rd_T60, rdOf] at h); (try simp only [rd_T56, rd_T60, rdOf] at H); (rw [beq_t (Decidable.not_not.1 h)] at H)) | ((try simp only [rd_T56, rd_T60, rdOf] at h); (try simp only [rd_T56, rd_T60, rdOf] at H); (rw [bne_f (Decidable.not_not.1 h)] at H)) | ((try simp only [rd_T56, rd_T60, rdOf] at h); (try simp only [rd_T56, rd_T60, rdOf] at H); (rw [if_pos h] at H)) | ((try simp only [rd_T56, rd_T60, rdOf] at h); (try simp only [rd_T56, rd_T60, rdOf] at H); (rw [if_neg h] at H)) | contradiction | skip)))
    | ((with_reducible apply ROps.val); (case hop => exact valX); (case hw => rfl); (case hdst => rfl); (case hd => rfl))
    | ((first | (with_reducible apply ROps.eqS; case hop => rfl) | (with_reducible apply ROps.neS; case hop => rfl)); (case ht => rfl); (case hx => rfl); (case hy => rfl); (case hl => rfl); (case hr => rfl); (case hw => rfl); (case hdst => rfl); (case hd => rfl); (all_goals (intro h; first | (replace H := ite_posF H h) | (replace H := ite_negF H h) | (dsimp only [eqP, eqA] at h) | skip)))
    | ((with_reducible apply ROps.idx); (case hop => rfl); (case hx => rfl); (case hi => rfl); (case he => rfl); (case hw => rfl); (case hdst => rfl); (case hd => rfl); (case h0 => first | assumption | omega); (case h1 => first | assumption | omega))
    | ((with_reducible apply ROps.box); (case hop => rfl); (case hx => rfl); (case hrf => rfl); (case hw => rfl); (all_goals try rfl))
    | ((with_reducible apply ROps.off); (case hw => rfl); (case hdst => rfl); (case hd => rfl))
    | ((with_reducible have hB : (boarderref01_Right.f _).bind _ = some _ := H); clear hB; (replace H := bind_some' H); (obtain ⟨t_, H1, H⟩ := H); (try dsimp only at H); (with_reducible apply ROps.call); (case hop => rfl); (case hc => exact boarderref01_Right.ok H1); (case ha => exact argsX); (case hw => rfl); (case hdst => rfl); (case hd => rfl))
    | ((with_reducible have hB : (boarderref13_subnet.f _ _ _ _ _ _ _ _).bind _ = some _ := H); clear hB; (replace H := bind_some' H); (obtain ⟨t_, H1, H⟩ := H); (try dsimp only at H); (with_reducible apply ROps.call); (case hop => rfl); (case hc => exact boarderref13_subnet.ok H1); (case ha => exact argsX); (case hw => rfl); (case hdst => rfl); (case hd => rfl))
    | ((with_reducible apply Runs.loopK1 ((fun i0 i1 i2 => fun kk (v0_3 : Int) => boarderref13_Form.l0 kk v0_3 i0 i1 i2) _ _ _) [1] [] (fun b v0_3 => [(3, .imm (.int .i64 v0_3))]) (fun v0_3 => []) _ _ [] H); (case h0 => intros; rfl); (any_goals (clear H; intro k0 hk0 ih0 v0_3 H; replace H : boarderref13_Form.l0 (k0 + 1) v0_3 _ _ _ = some _ := H; rw [boarderref13_Form.l0] at H)))
    | (with_reducible apply ih0 _ _ [] _ _ (by omega) H)
    | ((with_reducible apply Runs.loopK1 ((fun i0 i1 i2 i3 => fun kk (v1_4 : Int) => boarderref13_Form.l1 kk i0 v1_4 i1 i2 i3) _ _ _ _) [1, 3] [] (fun b v1_4 => [(4, .imm (.int .i64 v1_4))]) (fun v1_4 => []) _ _ [] H); (case h0 => intros; rfl); (any_goals (clear H; intro k1 hk1 ih1 v1_4 H; replace H : boarderref13_Form.l1 (k1 + 1) _ v1_4 _ _ _ = some _ := H; rw [boarderref13_Form.l1] at H)))
    | (with_reducible apply ih1 _ _ [] _ _ (by omega) H)
    | ((with_reducible apply Runs.retP tysOK); (case hrs => rfl); (case h => rfl); (case hr => (cases H; exact refX)); (case hx => rfl))
    | exact leRX)
end Go.Proofs.Ytopbcamlagdieaa.PStats
set_option linter.unusedVariables false
set_option linter.unusedSimpArgs false
namespace Go.Proofs.Ytopbcamlagdieaa.PStats
open Go.RowKit Go.Proofs.YtopbcamlagdieaaW.PrintWords Go.Proofs.YtopbcamlagdieaaW.PrintLast Go.Proofs.YtopbcamlagdieaaW.PrintMore Go.Proofs.Ytopbcamlagdieaa.Abs
/-! ### boarderref01_Last: function 80 -/
def boarderref01_Last.f (k : Nat) (a0 : Int) (a1 : Int) : Option (Int) := (boarderref01_Size.f k a1).bind fun t381 => (some (wrap64 ((wrap64 (a0 + t381)) - 1)))
noncomputable def boarderref01_Last.cx : Cx := ⟨Try.prog, tys, glo, 10, Try.f80, [.tmp 4], 0⟩
set_option maxHeartbeats 16000000 in
set_option maxRecDepth 100000 in
theorem boarderref01_Last.ok {k : Nat} {a0 : Int} {a1 : Int} {r0 : Int} (H : boarderref01_Last.f k a0 a1 = some r0) : CallOK Try.prog glo 80 [.imm (.int .i64 a0), .imm (.int .i64 a1)] (.imm (.int .i64 r0)) := by
  unfold boarderref01_Last.f at H
  refine CallOK.of (c := boarderref01_Last.cx) Try.func80 (show (boarderref01_Last.cx).fn.body = some _ from rfl) rfl rfl (Nat.le_of_ble_eq_true rfl) rfl ?_
  repeat' (first
    | ((with_reducible replace H := some_ite H); obtain ⟨_, H⟩ := H)
    | ((with_reducible apply ROps.pure); (case hop => rfl); (case hw => rfl); (case hdst => rfl); (case hd => rfl))
    | (with_reducible apply ROps.nil)
    | (with_reducible apply Runs.seq)
    | (with_reducible apply Runs.region tysOK)
    | (with_reducible apply Runs.scope)
    | (with_reducible apply Runs.inScope)
    | (with_reducible apply Runs.label)
    | ((with_reducible apply ROps.val); (case hop => exact valX); (case hw => rfl); (case hdst => rfl); (case hd => rfl))
    | ((with_reducible have hB : (boarderref01_Size.f _ _).bind _ = some _ := H); clear hB; (replace H := bind_some' H); (obtain ⟨t_, H1, H⟩ := H); (try dsimp only at H); (with_reducible apply ROps.call); (case hop => rfl); (case hc => exact boarderref01_Size.ok H1); (case ha => exact argsX); (case hw => rfl); (case hdst => rfl); (case hd => rfl))
    | ((with_reducible apply Runs.retP tysOK); (case hrs => rfl); (case h => rfl); (case hr => (cases H; exact refX)); (case hx => rfl))
    | exact leRX)
end Go.Proofs.Ytopbcamlagdieaa.PStats
set_option linter.unusedVariables false
set_option linter.unusedSimpArgs false
namespace Go.Proofs.Ytopbcamlagdieaa.PStats
open Go.RowKit Go.Proofs.YtopbcamlagdieaaW.PrintWords Go.Proofs.YtopbcamlagdieaaW.PrintLast Go.Proofs.YtopbcamlagdieaaW.PrintMore Go.Proofs.Ytopbcamlagdieaa.Abs
/-! ### boarderref13_lends: function 69 -/
def boarderref13_lends.f (k : Nat) (a0_0 : Int) (a0_1 : Int) (l0_2 : List (S76)) (l0_3 : List (S65)) (a0_4 : Int) (a0_5 : Int) (a0_6 : Int) (a1 : Int) : Option (Bool) := if a1 > a0_0 then ((boarderref01_Last.f k a0_0 a0_1).bind fun t383 => (some (decide (a1 < t383)))) else (some false)
noncomputable def boarderref13_lends.cx : Cx := ⟨Try.prog, tys, glo, 18, Try.f69, [.tmp 4], 0⟩
set_option maxHeartbeats 16000000 in
set_option maxRecDepth 100000 in
theorem boarderref13_lends.ok {k : Nat} {a0_0 : Int} {a0_1 : Int} {l0_2 : List (S76)} {l0_3 : List (S65)} {a0_4 : Int} {a0_5 : Int} {a0_6 : Int} {a1 : Int} {r0 : Bool} (H : boarderref13_lends.f k a0_0 a0_1 l0_2 l0_3 a0_4 a0_5 a0_6 a1 = some r0) : CallOK Try.prog glo 69 [.agg [.imm (.int .i64 a0_0), .imm (.int .i64 a0_1), vS76 l0_2, vS65 l0_3, .imm (.int .i64 a0_4), .imm (.int .i64 a0_5), .imm (.int .i64 a0_6)], .imm (.int .i64 a1)] (.imm (.bool r0)) := by
  unfold boarderref13_lends.f at H
  refine CallOK.of (c := boarderref13_lends.cx) Try.func69 (show (boarderref13_lends.cx).fn.body = some _ from rfl) rfl rfl (Nat.le_of_ble_eq_true rfl) rfl ?_
  repeat' (first
    | ((with_reducible replace H := some_ite H); obtain ⟨_, H⟩ := H)
    | (with_reducible replace H := true_ite H)
    | (with_reducible replace H := false_ite H)
    | ((with_reducible have hb := bool_ite H); clear H; rcases hb with ⟨e_, H⟩ | ⟨e_, H⟩ <;> subst e_)
    | ((with_reducible apply ROps.pure); (case hop => rfl); (case hw => rfl); (case hdst => rfl); (case hd => rfl))
    | (with_reducible apply ROps.nil)
    | (with_reducible apply Runs.seq)
    | (with_reducible apply Runs.region tysOK)
    | (with_reducible apply Runs.scope)
    | (with_reducible apply Runs.inScope)
    | (with_reducible apply Runs.label)
    | ((with_reducible apply ROps.cmp); (case hop => exact cmpX); (case hw => rfl); (case hdst => rfl); (case hd => rfl); (all_goals (intro h; first | (replace H := ite_pos_ h H) | (replace H := ite_neg_ h H) | (replace H := dec_pos h H) | (replace H := dec_neg h H) | (replace H := dec_t h H) | (replace H := dec_f h H) | (replace H := ite_pos_ (Decidable.not_not.1 h) H) | ((try simp only [rdOf] at h); (try simp only [rdOf] at H); (rw [decide_eq_true h] at H)) | ((try simp only [rdOf] at h); (try simp only [rdOf] at H); (rw [decide_eq_false h] at H)) | ((try simp only [rdOf] at h); (try simp only [rdOf] at H); (rw [if_pos h] at H)) | ((try simp only [rdOf] at h); (try simp only [rdOf] at H); (rw [if_neg h] at H)) | contradiction | skip)))
    | ((with_reducible apply ROps.box); (case hop => rfl); (case hx => rfl); (case hrf => rfl); (case hw => rfl); (all_goals try rfl))
    | ((with_reducible apply ROps.off); (case hw => rfl); (case hdst => rfl); (case hd => rfl))
    | ((with_reducible have hB : (boarderref01_Last.f _ _ _).bind _ = some _ := H); clear hB; (replace H := bind_some' H); (obtain ⟨t_, H1, H⟩ := H); (try dsimp only at H); (with_reducible apply ROps.call); (case hop => rfl); (case hc => exact boarderref01_Last.ok H1); (case ha => exact argsX); (case hw => rfl); (case hdst => rfl); (case hd => rfl))
    | ((with_reducible apply Runs.retP tysOK); (case hrs => rfl); (case h => rfl); (case hr => (cases H; exact refX)); (case hx => rfl))
    | exact leRX)
end Go.Proofs.Ytopbcamlagdieaa.PStats
set_option linter.unusedVariables false
set_option linter.unusedSimpArgs false
namespace Go.Proofs.Ytopbcamlagdieaa.PStats
open Go.RowKit Go.Proofs.YtopbcamlagdieaaW.PrintWords Go.Proofs.YtopbcamlagdieaaW.PrintLast Go.Proofs.YtopbcamlagdieaaW.PrintMore Go.Proofs.Ytopbcamlagdieaa.Abs
/-! ### boarderref01_Has: function 70 -/
def boarderref01_Has.f (k : Nat) (a0 : Int) (a1 : Int) (a2 : Int) : Option (Bool) := (boarderref01_Fair.f k a0 a1).bind fun t384 => (if t384 = true then ((boarderref01_Right.f a2).bind fun t385 => (if t385 = true then (if a2 ≥ a0 then ((boarderref01_Size.f k a1).bind fun t386 => (some (decide (a2 < (wrap64 (a0 + t386)))))) else (some false)) else (some false))) else (some false))
noncomputable def boarderref01_Has.cx : Cx := ⟨Try.prog, tys, glo, 27, Try.f70, [.tmp 6], 0⟩
set_option maxHeartbeats 16000000 in
set_option maxRecDepth 100000 in
theorem boarderref01_Has.ok {k : Nat} {a0 : Int} {a1 : Int} {a2 : Int} {r0 : Bool} (H : boarderref01_Has.f k a0 a1 a2 = some r0) : CallOK Try.prog glo 70 [.imm (.int .i64 a0), .imm (.int .i64 a1), .imm (.int .i64 a2)] (.imm (.bool r0)) := by
  unfold boarderref01_Has.f at H
  refine CallOK.of (c := boarderref01_Has.cx) Try.func70 (show (boarderref01_Has.cx).fn.body = some _ from rfl) rfl rfl (Nat.le_of_ble_eq_true rfl) rfl ?_
  repeat' (first
    | ((with_reducible replace H := some_ite H); obtain ⟨_, H⟩ := H)
    | (with_reducible replace H := some_bind_ H)
    | (with_reducible replace H := true_ite H)
    | (with_reducible replace H := false_ite H)
    | ((with_reducible have hb := bool_ite H); clear H; rcases hb with ⟨e_, H⟩ | ⟨e_, H⟩ <;> subst e_)
    | ((with_reducible apply ROps.pure); (case hop => rfl); (case hw => rfl); (case hdst => rfl); (case hd => rfl))
    | (with_reducible apply ROps.nil)
    | (with_reducible apply Runs.seq)
    | (with_reducible apply Runs.region tysOK)
    | (with_reducible apply Runs.scope)
    | (with_reducible apply Runs.inScope)
    | (with_reducible apply Runs.label)
    | ((with_reducible apply ROps.cmp); (case hop => exact cmpX); (case hw => rfl); (case hdst => rfl); (case hd => rfl); (all_goals (intro h; first | (replace H := ite_pos_ h H) | (replace H := ite_neg_ h H) | (replace H := dec_pos h H) | (replace H := dec_neg h H) | (replace H := dec_t h H) | (replace H := dec_f h H) | (replace H := ite_pos_ (Decidable.not_not.1 h) H) | ((try simp only [rdOf] at h); (try simp only [rdOf] at H); (rw [decide_eq_true h] at H)) | ((try simp only [rdOf] at h); (try simp only [rdOf] at H); (rw [decide_eq_false h] at H)) | ((try simp only [rdOf] at h); (try simp only [rdOf] at H); (rw [if_pos h] at H)) | ((try simp only [rdOf] at h); (try simp only [rdOf] at H); (rw [if_neg h] at H)) | contradiction | skip)))
    | ((with_reducible apply ROps.val); (case hop => exact valX); (case hw => rfl); (case hdst => rfl); (case hd => rfl))
    | ((with_reducible apply ROps.off); (case hw => rfl); (case hdst => rfl); (case hd => rfl))
    | ((with_reducible have hB : (boarderref01_Right.f _).bind _ = some _ := H); clear hB; (replace H := bind_some' H); (obtain ⟨t_, H1, H⟩ := H); (try dsimp only at H); (with_reducible apply ROps.call); (case hop => rfl); (case hc => exact boarderref01_Right.ok H1); (case ha => exact argsX); (case hw => rfl); (case hdst => rfl); (case hd => rfl))
    | ((with_reducible have hB : (boarderref01_Fair.f _ _ _).bind _ = some _ := H); clear hB; (replace H := bind_some' H); (obtain ⟨t_, H1, H⟩ := H); (try dsimp only at H); (with_reducible apply ROps.call); (case hop => rfl); (case hc => exact boarderref01_Fair.ok H1); (case ha => exact argsX); (case hw => rfl); (case hdst => rfl); (case hd => rfl))
    | ((with_reducible have hB : (boarderref01_Size.f _ _).bind _ = some _ := H); clear hB; (replace H := bind_some' H); (obtain ⟨t_, H1, H⟩ := H); (try dsimp only at H); (with_reducible apply ROps.call); (case hop => rfl); (case hc => exact boarderref01_Size.ok H1); (case ha => exact argsX); (case hw => rfl); (case hdst => rfl); (case hd => rfl))
    | ((with_reducible apply Runs.retP tysOK); (case hrs => rfl); (case h => rfl); (case hr => (cases H; exact refX)); (case hx => rfl))
    | exact leRX)
end Go.Proofs.Ytopbcamlagdieaa.PStats
set_option linter.unusedVariables false
set_option linter.unusedSimpArgs false
namespace Go.Proofs.Ytopbcamlagdieaa.PStats
open Go.RowKit Go.Proofs.YtopbcamlagdieaaW.PrintWords Go.Proofs.YtopbcamlagdieaaW.PrintLast Go.Proofs.YtopbcamlagdieaaW.PrintMore Go.Proofs.Ytopbcamlagdieaa.Abs
/-! ### boarderref13_Places: function 46 -/
mutual
def boarderref13_Places.l0 : Nat → Int → Int → Int → List (S56) → Option (Bool)
  | 0, _, _, _, _ => none
  | k + 1, x3, x388000, x388001, x388002 => if x3 < (x388002.length : Int) then (boarderref13_Places.l1 k x3 0 x388000 x388001 x388002) else (some true)
def boarderref13_Places.l1 : Nat → Int → Int → Int → Int → List (S56) → Option (Bool)
  | 0, _, _, _, _, _ => none
  | k + 1, x3, x4, x388000, x388001, x388002 => if 0 ≤ x3 then (if x3 < (x388002.length : Int) then (if x4 < (((rd_T56 x388002 x3).f0).length : Int) then (if 0 ≤ x4 then (boarderref13_Places.l2 k x3 x4 0 x388000 x388001 x388002 ((rd_T60 ((rd_T56 x388002 x3).f0) x4).f0) ((rd_T60 ((rd_T56 x388002 x3).f0) x4).f1) ((rd_T60 ((rd_T56 x388002 x3).f0) x4).f2) ((rd_T60 ((rd_T56 x388002 x3).f0) x4).f3) ((rd_T60 ((rd_T56 x388002 x3).f0) x4).f4) ((rd_T60 ((rd_T56 x388002 x3).f0) x4).f5) ((rd_T60 ((rd_T56 x388002 x3).f0) x4).f6)) else (none)) else (boarderref13_Places.l0 k (wrap64 (x3 + 1)) x388000 x388001 x388002)) else (none)) else (none)
def boarderref13_Places.l2 : Nat → Int → Int → Int → Int → Int → List (S56) → Int → Int → List (S76) → List (S65) → Int → Int → Int → Option (Bool)
  | 0, _, _, _, _, _, _, _, _, _, _, _, _, _ => none
  | k + 1, x3, x4, x6, x388000, x388001, x388002, x392000, x392001, x392002, x392003, x392004, x392005, x392006 => if x6 < (x392002.length : Int) then (if 0 ≤ x6 then ((boarderref13_lends.f k x392000 x392001 x392002 x392003 x392004 x392005 x392006 ((rd_T76 x392002 x6).f0)).bind fun t394 => (if t394 = true then ((boarderref13_lends.f k x392000 x392001 x392002 x392003 x392004 x392005 x392006 ((rd_T76 x392002 x6).f1)).bind fun t395 => (if t395 = true then (if x388000 ≥ ((rd_T76 x392002 x6).f0) then (if x388000 ≤ ((rd_T76 x392002 x6).f1) then (some false) else (boarderref13_Places.l2 k x3 x4 (wrap64 (x6 + 1)) x388000 x388001 x388002 x392000 x392001 x392002 x392003 x392004 x392005 x392006)) else (boarderref13_Places.l2 k x3 x4 (wrap64 (x6 + 1)) x388000 x388001 x388002 x392000 x392001 x392002 x392003 x392004 x392005 x392006)) else (some false))) else (some false))) else (none)) else (boarderref13_Places.l3 k x3 x4 0 x388000 x388001 x388002 x392000 x392001 x392002 x392003 x392004 x392005 x392006)
def boarderref13_Places.l3 : Nat → Int → Int → Int → Int → Int → List (S56) → Int → Int → List (S76) → List (S65) → Int → Int → Int → Option (Bool)
  | 0, _, _, _, _, _, _, _, _, _, _, _, _, _ => none
  | k + 1, x3, x4, x8, x388000, x388001, x388002, x392000, x392001, x392002, x392003, x392004, x392005, x392006 => if x8 < (x392003.length : Int) then (if 0 ≤ x8 then ((boarderref13_lends.f k x392000 x392001 x392002 x392003 x392004 x392005 x392006 ((rd_T65 x392003 x8).f1)).bind fun t397 => (if t397 = true then (if ((rd_T65 x392003 x8).f1) = x388000 then (some false) else (boarderref13_Places.l3 k x3 x4 (wrap64 (x8 + 1)) x388000 x388001 x388002 x392000 x392001 x392002 x392003 x392004 x392005 x392006)) else (some false))) else (none)) else (if x392005 = 0 then (boarderref13_Places.l1 k x3 (wrap64 (x4 + 1)) x388000 x388001 x388002) else ((boarderref01_Has.f k x392000 x392001 x392005).bind fun t399 => (if t399 = true then (boarderref13_Places.l1 k x3 (wrap64 (x4 + 1)) x388000 x388001 x388002) else (some false))))
end
def boarderref13_Places.f (k : Nat) (a0_0 : Int) (a0_1 : Int) (l0_2 : List (S56)) : Option (Bool) := boarderref13_Places.l0 k 0 a0_0 a0_1 l0_2
def boarderref13_Places.T17 : Bool × List (List Nat × List Nat) := (true, [([], []), ([], []), ([1], [1]), ([], []), ([2, 3], [2, 3]), ([4], [4]), ([5], [5]), ([0, 6], [0, 6]), ([7], [7]), ([8, 7], [8]), ([9], [9]), ([10, 9], [9, 10]), ([9], [9]), ([11, 12, 9], [9, 11, 12]), ([13, 9], [9, 13]), ([14, 9], [9, 14]), ([9], [9]), ([16, 9], [9, 16]), ([15, 17, 9], [9, 15, 17]), ([9, 18], [9, 18])])
def boarderref13_Places.B17 : List Nat := [0, 0, 2, 0, 14, 30, 62, 127, 255, 511, 1023, 2047, 1023, 8191, 16383, 32767, 1023, 66559, 262143, 524287]
noncomputable def boarderref13_Places.cx : Cx := ⟨Try.prog, tys, glo, 114, Try.f46, [.tmp 2], 0⟩
set_option maxHeartbeats 16000000 in
set_option maxRecDepth 100000 in
theorem boarderref13_Places.ok {k : Nat} {a0_0 : Int} {a0_1 : Int} {l0_2 : List (S56)} {r0 : Bool} (H : boarderref13_Places.f k a0_0 a0_1 l0_2 = some r0) : CallOK Try.prog glo 46 [.agg [.imm (.int .i64 a0_0), .imm (.int .i64 a0_1), vS56 l0_2]] (.imm (.bool r0)) := by
  unfold boarderref13_Places.f at H
  refine CallOK.of (c := boarderref13_Places.cx) Try.func46 (show (boarderref13_Places.cx).fn.body = some _ from rfl) rfl rfl (Nat.le_of_ble_eq_true rfl) rfl ?_
  repeat' (first
    | ((with_reducible replace H := some_ite H); obtain ⟨_, H⟩ := H)
    | (with_reducible replace H := true_ite H)
    | (with_reducible replace H := false_ite H)
    | ((with_reducible have hb := bool_ite H); clear H; rcases hb with ⟨e_, H⟩ | ⟨e_, H⟩ <;> subst e_)
    | ((first | with_reducible apply ROps.pure | with_reducible apply DOps.pure); (case hop => rfl); (case hw => rfl); (case hdst => rfl); (case hd => rfl))
    | (first | with_reducible apply ROps.nil | with_reducible apply DOps.nil)
    | (with_reducible apply Runs.seq)
    | (with_reducible apply Runs.region tysOK)
    | ((with_reducible apply Runs.drawnE [] tysOK mixed); (case hB => kernel_rfl))
    | (with_reducible apply Runs.block)
    | (with_reducible apply Runs.skip)
    | (with_reducible apply Runs.inBlock)
    | (with_reducible apply Runs.scope)
    | (with_reducible apply Runs.inScope)
    | (with_reducible apply Runs.label)
    | ((with_reducible apply Runs.condT); (case ho => rfl))
    | ((with_reducible apply Runs.condF); (case ho => rfl))
    | ((with_reducible apply Runs.exit); (case he => rfl))
    | ((first | with_reducible apply ROps.store | with_reducible apply DOps.store); (case hop => rfl); (case hp => rfl); (case hR => rfl); (case hc => rfl); (case hl => first | (dsimp only [setR_one, setR, Nat.beq, cond]; done) | (dsimp only [setR_one, setR, Nat.beq, cond]; rfl) | rfl); (case hl' => first | (dsimp only [List.take, List.drop, List.append, List.nil_append, List.cons_append, List.map, List.length, Nat.add]; rfl) | rfl); (case hw => rfl); (all_goals try rfl))
    | ((first | with_reducible apply ROps.cmp | with_reducible apply DOps.cmp); (case hop => exact cmpX); (case hw => rfl); (case hdst => rfl); (case hd => rfl); (all_goals (intro h; first | (replace H := ite_pos_ h H) | (replace H := ite_neg_ h H) | (replace H := dec_pos h H) | (replace H := dec_neg h H) | (replace H := dec_t h H) | (replace H := dec_f h H) | (replace H := beq_pos h H) | (replace H := beq_neg h H) | (replace H := beq_tt h H) | (replace H := beq_ff h H) | (replace H := ite_pos_ (Decidable.not_not.1 h) H) | (replace H := beq_pos (Decidable.not_not.1 h) H) | (replace H := beq_tt (Decidable.not_not.1 h) H) | ((try simp only [rd_T56, rd_T60, rd_T65, rd_T76, rdOf] at h); (try simp only [rd_T56, rd_T60, rd_T65, rd_T76, rdOf] at H); (rw [decide_eq_true h] at H)) | ((try simp only [rd_T56, rd_T60, rd_T65, rd_T76, rdOf] at h); (try simp only [rd_T56, rd_T60, rd_T65, rd_T76, rdOf] at H); (rw [decide_eq_false h] at H)) | ((try simp only [rd_T56, rd_T60, rd_T65, rd_T76, rdOf] at h); (try simp only [rd_T56, rd_T60, rd_T65, rd_T76, rdOf] at H); (rw [beq_t h] at H)) | ((try simp only [rd_T56, rd_T60, rd_T65, rd_T76, rdOf] at h); (try simp only [rd_T56, rd_T60, rd_T65, rd_T76, rdOf] at H); (rw [beq_f h] at H)) | ((try simp only [rd_T56, rd_T60, rd_T65, rd_T76, rdOf] at h); (try simp only [rd_T56, rd_T60, rd_T65, rd_T76, rdOf] at H); (rw [bne_t h] at H)) | ((try simp only [rd_T56, rd_T60, rd_T65, rd_T76, rdOf] at h); (try simp only [rd_T56, rd_T60, rd_T65, rd_T76, rdOf] at H); (rw [bne_f h] at H)) | ((try simp only [rd_T56, rd_T60, rd_T65, rd_T76, rdOf] at h); (try simp only [rd_T56, rd_T60, rd_T65, rd_T76, rdOf] at H); (rw [beq_t (Decidable.not_not.1 h)] at H)) | ((try simp only [rd_T56, rd_T60, rd_T65, rd_T76, rdOf] at h); (try simp only [rd_T56, rd_T60, rd_T65, rd_T76, rdOf] at H); (rw [bne_f (Decidable.not_not.1 h)] at H)) | ((try simp only [rd_T56, rd_T60, rd_T65, rd_T76, rdOf] at h); (try simp only [rd_T56, rd_T60, rd_T65, rd_T76, rdOf] at H); (rw [if_pos h] at H)) | ((try simp only [rd_T56, rd_T60, rd_T65, rd_T76, rdOf] at h); (try simp only [rd_T56, rd_T60, rd_T65, rd_T76, rdOf] at H); (rw [if_neg h] at H)) | contradiction | skip)))
    | ((first | with_reducible apply ROps.val | with_reducible apply DOps.val); (case hop => exact valX); (case hw => rfl); (case hdst => rfl); (case hd => rfl))
    | ((first | (with_reducible apply ROps.eqS; case hop => rfl) | (with_reducible apply DOps.eqS; case hop => rfl) | (with_reducible apply ROps.neS; case hop => rfl) | (with_reducible apply DOps.neS; case hop => rfl)); (case ht => rfl); (case hx => rfl); (case hy => rfl); (case hl => rfl); (case hr => rfl); (case hw => rfl); (case hdst => rfl); (case hd => rfl); (all_goals (intro h; first | (replace H := ite_posF H h) | (replace H := ite_negF H h) | (dsimp only [eqP, eqA] at h) | skip)))
    | ((first | with_reducible apply ROps.idx | with_reducible apply DOps.idx); (case hop => rfl); (case hx => rfl); (case hi => rfl); (case he => rfl); (case hw => rfl); (case hdst => rfl); (case hd => rfl); (case h0 => first | assumption | omega); (case h1 => first | assumption | omega))
    | ((with_reducible apply ROps.alloc); (case hop => rfl); (case hw => rfl); (all_goals try rfl))
    | ((first | with_reducible apply ROps.box | with_reducible apply DOps.box); (case hop => rfl); (case hx => rfl); (case hrf => rfl); (case hw => rfl); (all_goals try rfl))
    | ((first | with_reducible apply ROps.off | with_reducible apply DOps.off); (case hw => rfl); (case hdst => rfl); (case hd => rfl))
    | ((with_reducible have hB : (boarderref13_lends.f _ _ _ _ _ _ _ _ _).bind _ = some _ := H); clear hB; (replace H := bind_some' H); (obtain ⟨t_, H1, H⟩ := H); (try dsimp only at H); (first | with_reducible apply ROps.call | with_reducible apply DOps.call); (case hop => rfl); (case hc => exact boarderref13_lends.ok H1); (case ha => exact argsX); (case hw => rfl); (case hdst => rfl); (case hd => rfl))
    | ((with_reducible have hB : (boarderref01_Has.f _ _ _ _).bind _ = some _ := H); clear hB; (replace H := bind_some' H); (obtain ⟨t_, H1, H⟩ := H); (try dsimp only at H); (first | with_reducible apply ROps.call | with_reducible apply DOps.call); (case hop => rfl); (case hc => exact boarderref01_Has.ok H1); (case ha => exact argsX); (case hw => rfl); (case hdst => rfl); (case hd => rfl))
    | ((with_reducible apply Runs.loopK1 ((fun i0 i1 i2 => fun kk (v0_3 : Int) => boarderref13_Places.l0 kk v0_3 i0 i1 i2) _ _ _) [1] [] (fun b v0_3 => [(3, .imm (.int .i64 v0_3))]) (fun v0_3 => []) _ _ [] H); (case h0 => intros; rfl); (any_goals (clear H; intro k0 hk0 ih0 v0_3 H; replace H : boarderref13_Places.l0 (k0 + 1) v0_3 _ _ _ = some _ := H; rw [boarderref13_Places.l0] at H)))
    | (with_reducible apply ih0 _ _ [] _ _ (by omega) H)
    | ((with_reducible apply Runs.loopK1 ((fun i0 i1 i2 i3 => fun kk (v1_4 : Int) => boarderref13_Places.l1 kk i0 v1_4 i1 i2 i3) _ _ _ _) [1, 3] [] (fun b v1_4 => [(4, .imm (.int .i64 v1_4))]) (fun v1_4 => []) _ _ [] H); (case h0 => intros; rfl); (any_goals (clear H; intro k1 hk1 ih1 v1_4 H; replace H : boarderref13_Places.l1 (k1 + 1) _ v1_4 _ _ _ = some _ := H; rw [boarderref13_Places.l1] at H)))
    | (with_reducible apply ih1 _ _ [] _ _ (by omega) H)
    | ((with_reducible apply Runs.loopK1 ((fun i0 i1 i2 i3 i4 i5 i6 i7 i8 i9 i10 i11 => fun kk (v2_6 : Int) => boarderref13_Places.l2 kk i0 i1 v2_6 i2 i3 i4 i5 i6 i7 i8 i9 i10 i11) _ _ _ _ _ _ _ _ _ _ _ _) [1, 3, 4, 5] [] (fun b v2_6 => [(6, .imm (.int .i64 v2_6))]) (fun v2_6 => []) _ _ [] H); (case h0 => intros; rfl); (any_goals (clear H; intro k2 hk2 ih2 v2_6 H; replace H : boarderref13_Places.l2 (k2 + 1) _ _ v2_6 _ _ _ _ _ _ _ _ _ _ = some _ := H; rw [boarderref13_Places.l2] at H)))
    | (with_reducible apply ih2 _ _ [] _ _ (by omega) H)
    | ((with_reducible apply Runs.loopK1 ((fun i0 i1 i2 i3 i4 i5 i6 i7 i8 i9 i10 i11 => fun kk (v3_8 : Int) => boarderref13_Places.l3 kk i0 i1 v3_8 i2 i3 i4 i5 i6 i7 i8 i9 i10 i11) _ _ _ _ _ _ _ _ _ _ _ _) [1, 3, 4, 5] [] (fun b v3_8 => [(8, .imm (.int .i64 v3_8))]) (fun v3_8 => []) _ _ [] H); (case h0 => intros; rfl); (any_goals (clear H; intro k3 hk3 ih3 v3_8 H; replace H : boarderref13_Places.l3 (k3 + 1) _ _ v3_8 _ _ _ _ _ _ _ _ _ _ = some _ := H; rw [boarderref13_Places.l3] at H)))
    | (with_reducible apply ih3 _ _ [] _ _ (by omega) H)
    | ((with_reducible apply Runs.retP tysOK); (case hrs => rfl); (case h => rfl); (case hr => (cases H; exact refX)); (case hx => rfl))
    | exact leRX)
end Go.Proofs.Ytopbcamlagdieaa.PStats
set_option linter.unusedVariables false
set_option linter.unusedSimpArgs false
namespace Go.Proofs.Ytopbcamlagdieaa.PStats
open Go.RowKit Go.Proofs.YtopbcamlagdieaaW.PrintWords Go.Proofs.YtopbcamlagdieaaW.PrintLast Go.Proofs.YtopbcamlagdieaaW.PrintMore Go.Proofs.Ytopbcamlagdieaa.Abs
/-! ### boarderref13_Flat: function 71 -/
mutual
def boarderref13_Flat.l0 : Nat → List (S60) → List Int → Int → Int → Int → List (S56) → Option ((List (S60)) × List Int)
  | 0, _, _, _, _, _, _ => none
  | k + 1, x4, x5, x6, x401000, x401001, x401002 => if x6 < (x401002.length : Int) then (boarderref13_Flat.l1 k x4 x5 x6 0 x401000 x401001 x401002) else (some (x4, x5))
def boarderref13_Flat.l1 : Nat → List (S60) → List Int → Int → Int → Int → Int → List (S56) → Option ((List (S60)) × List Int)
  | 0, _, _, _, _, _, _, _ => none
  | k + 1, x4, x5, x6, x7, x401000, x401001, x401002 => if 0 ≤ x6 then (if x6 < (x401002.length : Int) then (if x7 < (((rd_T56 x401002 x6).f0).length : Int) then (if 0 ≤ x7 then (if x4.length < 1599289640401 then (if x5.length < 17592186044416 then (boarderref13_Flat.l1 k (x4 ++ [(⟨(rd_T60 ((rd_T56 x401002 x6).f0) x7).f0, (rd_T60 ((rd_T56 x401002 x6).f0) x7).f1, (rd_T60 ((rd_T56 x401002 x6).f0) x7).f2, (rd_T60 ((rd_T56 x401002 x6).f0) x7).f3, (rd_T60 ((rd_T56 x401002 x6).f0) x7).f4, (rd_T60 ((rd_T56 x401002 x6).f0) x7).f5, (rd_T60 ((rd_T56 x401002 x6).f0) x7).f6⟩ : S60)]) (x5 ++ [x6]) x6 (wrap64 (x7 + 1)) x401000 x401001 x401002) else (none)) else (none)) else (none)) else (boarderref13_Flat.l0 k x4 x5 (wrap64 (x6 + 1)) x401000 x401001 x401002)) else (none)) else (none)
end
def boarderref13_Flat.f (k : Nat) (a0_0 : Int) (a0_1 : Int) (l0_2 : List (S56)) : Option ((List (S60)) × List Int) := boarderref13_Flat.l0 k ([] : List (S60)) ([] : List Int) 0 a0_0 a0_1 l0_2
noncomputable def boarderref13_Flat.cx : Cx := ⟨Try.prog, tys, glo, 44, Try.f71, [.tmp 2, .tmp 3], 0⟩
set_option maxHeartbeats 16000000 in
set_option maxRecDepth 100000 in
theorem boarderref13_Flat.ok {k : Nat} {a0_0 : Int} {a0_1 : Int} {l0_2 : List (S56)} {r0 : (List (S60))} {r1 : List Int} (H : boarderref13_Flat.f k a0_0 a0_1 l0_2 = some (r0, r1)) : CallOK Try.prog glo 71 [.agg [.imm (.int .i64 a0_0), .imm (.int .i64 a0_1), vS56 l0_2]] (.tup [vS60 r0, vI .i64 r1]) := by
  unfold boarderref13_Flat.f at H
  refine CallOK.of (c := boarderref13_Flat.cx) Try.func71 (show (boarderref13_Flat.cx).fn.body = some _ from rfl) rfl rfl (Nat.le_of_ble_eq_true rfl) rfl ?_
  repeat' (first
    | ((with_reducible replace H := some_ite H); obtain ⟨_, H⟩ := H)
    | (with_reducible replace H := true_ite H)
    | (with_reducible replace H := false_ite H)
    | ((with_reducible have hb := bool_ite H); clear H; rcases hb with ⟨e_, H⟩ | ⟨e_, H⟩ <;> subst e_)
    | ((with_reducible apply ROps.pure); (case hop => rfl); (case hw => rfl); (case hdst => rfl); (case hd => rfl))
    | (with_reducible apply ROps.nil)
    | (with_reducible apply Runs.seq)
    | (with_reducible apply Runs.region tysOK)
    | (with_reducible apply Runs.block)
    | (with_reducible apply Runs.skip)
    | (with_reducible apply Runs.inBlock)
    | (with_reducible apply Runs.scope)
    | (with_reducible apply Runs.inScope)
    | (with_reducible apply Runs.label)
    | ((with_reducible apply Runs.condT); (case ho => rfl))
    | ((with_reducible apply Runs.condF); (case ho => rfl))
    | ((with_reducible apply Runs.exit); (case he => rfl))
    | ((with_reducible apply ROps.cmp); (case hop => exact cmpX); (case hw => rfl); (case hdst => rfl); (case hd => rfl); (all_goals (intro h; first | (replace H := ite_pos_ h H) | (replace H := ite_neg_ h H) | (replace H := dec_pos h H) | (replace H := dec_neg h H) | (replace H := dec_t h H) | (replace H := dec_f h H) | (replace H := ite_pos_ (Decidable.not_not.1 h) H) | ((try simp only [rd_T56, rd_T60, rdOf] at h); (try simp only [rd_T56, rd_T60, rdOf] at H); (rw [decide_eq_true h] at H)) | ((try simp only [rd_T56, rd_T60, rdOf] at h); (try simp only [rd_T56, rd_T60, rdOf] at H); (rw [decide_eq_false h] at H)) | ((try simp only [rd_T56, rd_T60, rdOf] at h); (try simp only [rd_T56, rd_T60, rdOf] at H); (rw [if_pos h] at H)) | ((try simp only [rd_T56, rd_T60, rdOf] at h); (try simp only [rd_T56, rd_T60, rdOf] at H); (rw [if_neg h] at H)) | contradiction | skip)))
    | ((with_reducible apply ROps.val); (case hop => exact valX); (case hw => rfl); (case hdst => rfl); (case hd => rfl))
    | ((with_reducible apply ROps.idx); (case hop => rfl); (case hx => rfl); (case hi => rfl); (case he => rfl); (case hw => rfl); (case hdst => rfl); (case hd => rfl); (case h0 => first | assumption | omega); (case h1 => first | assumption | omega))
    | ((with_reducible apply ROps.box); (case hop => rfl); (case hx => rfl); (case hrf => rfl); (case hw => rfl); (all_goals try rfl))
    | ((with_reducible apply ROps.lit); (case hop => rfl); (case hti => rfl); (case hsz => rfl); (case hl => rfl); (case hrf => rfl); (case hw => rfl); (all_goals try rfl))
    | ((with_reducible apply ROps.app); (case hop => rfl); (case hti => rfl); (case hsz => rfl); (case hs => rfl); (case hR => rfl); (case hx => rfl); (case hb => constructor <;> ((try simp only [maxLen, List.length_nil, List.length_cons, List.length_append] at *); omega)); (case hw => rfl); (all_goals try rfl))
    | ((with_reducible apply ROps.appN); (case hop => rfl); (case hti => rfl); (case hsz => rfl); (case hs => rfl); (case hx => rfl); (case hb => constructor <;> ((try simp only [maxLen, List.length_nil, List.length_cons, List.length_append] at *); omega)); (case hw => rfl); (all_goals try rfl))
    | ((with_reducible apply Runs.loopK3 ((fun i0 i1 i2 => fun kk (v0_4 : List (S60)) (v0_5 : List Int) (v0_6 : Int) => boarderref13_Flat.l0 kk v0_4 v0_5 v0_6 i0 i1 i2) _ _ _) [1] [] (fun b v0_4 v0_5 v0_6 => [(4, .own (b + 0) (v0_4).length 7 (rowsE eS60 z60 v0_4)), (5, .own (b + 1) (v0_5).length 1 (rowsE (eInt .i64) 0 v0_5)), (6, .imm (.int .i64 v0_6))]) (fun v0_4 v0_5 v0_6 => [.arr 60 7 (v0_4).length, .arr 3 1 (v0_5).length]) _ _ _ _ [_, _] H); (case h0 => intros; rfl); (any_goals (clear H; intro k0 hk0 ih0 v0_4 v0_5 v0_6 H; replace H : boarderref13_Flat.l0 (k0 + 1) v0_4 v0_5 v0_6 _ _ _ = some _ := H; rw [boarderref13_Flat.l0] at H)))
    | (with_reducible apply ih0 _ _ _ _ [_, _] _ _ (by omega) H)
    | ((with_reducible apply Runs.loopK3 ((fun i0 i1 i2 i3 => fun kk (v1_4 : List (S60)) (v1_5 : List Int) (v1_7 : Int) => boarderref13_Flat.l1 kk v1_4 v1_5 i0 v1_7 i1 i2 i3) _ _ _ _) [1, 6] [] (fun b v1_4 v1_5 v1_7 => [(4, .own (b + 0) (v1_4).length 7 (rowsE eS60 z60 v1_4)), (5, .own (b + 1) (v1_5).length 1 (rowsE (eInt .i64) 0 v1_5)), (7, .imm (.int .i64 v1_7))]) (fun v1_4 v1_5 v1_7 => [.arr 60 7 (v1_4).length, .arr 3 1 (v1_5).length]) _ _ _ _ [_, _] H); (case h0 => intros; rfl); (any_goals (clear H; intro k1 hk1 ih1 v1_4 v1_5 v1_7 H; replace H : boarderref13_Flat.l1 (k1 + 1) v1_4 v1_5 _ v1_7 _ _ _ = some _ := H; rw [boarderref13_Flat.l1] at H)))
    | (with_reducible apply ih1 _ _ _ _ [_, _] _ _ (by omega) H)
    | ((with_reducible apply Runs.retP tysOK); (case hrs => rfl); (case h => rfl); (case hr => (cases H; exact refX)); (case hx => rfl))
    | exact leRX)
end Go.Proofs.Ytopbcamlagdieaa.PStats
set_option linter.unusedVariables false
set_option linter.unusedSimpArgs false
namespace Go.Proofs.Ytopbcamlagdieaa.PStats
open Go.RowKit Go.Proofs.YtopbcamlagdieaaW.PrintWords Go.Proofs.YtopbcamlagdieaaW.PrintLast Go.Proofs.YtopbcamlagdieaaW.PrintMore Go.Proofs.Ytopbcamlagdieaa.Abs
/-! ### boarderref13_Pooled: function 72 -/
mutual
def boarderref13_Pooled.l0 : Nat → Int → Int → Int → List (S76) → List (S65) → Int → Int → Int → Option (Bool)
  | 0, _, _, _, _, _, _, _, _ => none
  | k + 1, x3, x411000, x411001, x411002, x411003, x411004, x411005, x411006 => if x3 < (x411002.length : Int) then (boarderref13_Pooled.l1 k x3 0 x411000 x411001 x411002 x411003 x411004 x411005 x411006) else (some false)
def boarderref13_Pooled.l1 : Nat → Int → Int → Int → Int → List (S76) → List (S65) → Int → Int → Int → Option (Bool)
  | 0, _, _, _, _, _, _, _, _, _ => none
  | k + 1, x3, x4, x411000, x411001, x411002, x411003, x411004, x411005, x411006 => if x4 < x3 then (if 0 ≤ x3 then (if x3 < (x411002.length : Int) then (if 0 ≤ x4 then (if x4 < (x411002.length : Int) then (if ((rd_T76 x411002 x3).f0) ≤ ((rd_T76 x411002 x4).f1) then (if ((rd_T76 x411002 x4).f0) ≤ ((rd_T76 x411002 x3).f1) then (some true) else (boarderref13_Pooled.l1 k x3 (wrap64 (x4 + 1)) x411000 x411001 x411002 x411003 x411004 x411005 x411006)) else (boarderref13_Pooled.l1 k x3 (wrap64 (x4 + 1)) x411000 x411001 x411002 x411003 x411004 x411005 x411006)) else (none)) else (none)) else (none)) else (none)) else (boarderref13_Pooled.l0 k (wrap64 (x3 + 1)) x411000 x411001 x411002 x411003 x411004 x411005 x411006)
end
def boarderref13_Pooled.f (k : Nat) (a0_0 : Int) (a0_1 : Int) (l0_2 : List (S76)) (l0_3 : List (S65)) (a0_4 : Int) (a0_5 : Int) (a0_6 : Int) : Option (Bool) := boarderref13_Pooled.l0 k 0 a0_0 a0_1 l0_2 l0_3 a0_4 a0_5 a0_6
noncomputable def boarderref13_Pooled.cx : Cx := ⟨Try.prog, tys, glo, 45, Try.f72, [.tmp 2], 0⟩
set_option maxHeartbeats 16000000 in
set_option maxRecDepth 100000 in
theorem boarderref13_Pooled.ok {k : Nat} {a0_0 : Int} {a0_1 : Int} {l0_2 : List (S76)} {l0_3 : List (S65)} {a0_4 : Int} {a0_5 : Int} {a0_6 : Int} {r0 : Bool} (H : boarderref13_Pooled.f k a0_0 a0_1 l0_2 l0_3 a0_4 a0_5 a0_6 = some r0) : CallOK Try.prog glo 72 [.agg [.imm (.int .i64 a0_0), .imm (.int .i64 a0_1), vS76 l0_2, vS65 l0_3, .imm (.int .i64 a0_4), .imm (.int .i64 a0_5), .imm (.int .i64 a0_6)]] (.imm (.bool r0)) := by
  unfold boarderref13_Pooled.f at H
  refine CallOK.of (c := boarderref13_Pooled.cx) Try.func72 (show (boarderref13_Pooled.cx).fn.body = some _ from rfl) rfl rfl (Nat.le_of_ble_eq_true rfl) rfl ?_
  repeat' (first
    | ((with_reducible replace H := some_ite H); obtain ⟨_, H⟩ := H)
    | (with_reducible replace H := true_ite H)
    | (with_reducible replace H := false_ite H)
    | ((with_reducible have hb := bool_ite H); clear H; rcases hb with ⟨e_, H⟩ | ⟨e_, H⟩ <;> subst e_)
    | ((first | with_reducible apply ROps.pure | with_reducible apply DOps.pure); (case hop => rfl); (case hw => rfl); (case hdst => rfl); (case hd => rfl))
    | (first | with_reducible apply ROps.nil | with_reducible apply DOps.nil)
    | (with_reducible apply Runs.seq)
    | (with_reducible apply Runs.region tysOK)
    | ((with_reducible apply Runs.drawnE [] tysOK mixed); (case hB => kernel_rfl))
    | (with_reducible apply Runs.block)
    | (with_reducible apply Runs.skip)
    | (with_reducible apply Runs.inBlock)
    | (with_reducible apply Runs.scope)
    | (with_reducible apply Runs.inScope)
    | (with_reducible apply Runs.label)
    | ((with_reducible apply Runs.condT); (case ho => rfl))
    | ((with_reducible apply Runs.condF); (case ho => rfl))
    | ((with_reducible apply Runs.exit); (case he => rfl))
    | ((first | with_reducible apply ROps.cmp | with_reducible apply DOps.cmp); (case hop => exact cmpX); (case hw => rfl); (case hdst => rfl); (case hd => rfl); (all_goals (intro h; first | (replace H := ite_pos_ h H) | (replace H := ite_neg_ h H) | (replace H := dec_pos h H) | (replace H := dec_neg h H) | (replace H := dec_t h H) | (replace H := dec_f h H) | (replace H := ite_pos_ (Decidable.not_not.1 h) H) | ((try simp only [rd_T76, rdOf] at h); (try simp only [rd_T76, rdOf] at H); (rw [decide_eq_true h] at H)) | ((try simp only [rd_T76, rdOf] at h); (try simp only [rd_T76, rdOf] at H); (rw [decide_eq_false h] at H)) | ((try simp only [rd_T76, rdOf] at h); (try simp only [rd_T76, rdOf] at H); (rw [if_pos h] at H)) | ((try simp only [rd_T76, rdOf] at h); (try simp only [rd_T76, rdOf] at H); (rw [if_neg h] at H)) | contradiction | skip)))
    | ((first | with_reducible apply ROps.val | with_reducible apply DOps.val); (case hop => exact valX); (case hw => rfl); (case hdst => rfl); (case hd => rfl))
    | ((first | with_reducible apply ROps.idx | with_reducible apply DOps.idx); (case hop => rfl); (case hx => rfl); (case hi => rfl); (case he => rfl); (case hw => rfl); (case hdst => rfl); (case hd => rfl); (case h0 => first | assumption | omega); (case h1 => first | assumption | omega))
    | ((first | with_reducible apply ROps.box | with_reducible apply DOps.box); (case hop => rfl); (case hx => rfl); (case hrf => rfl); (case hw => rfl); (all_goals try rfl))
    | ((first | with_reducible apply ROps.off | with_reducible apply DOps.off); (case hw => rfl); (case hdst => rfl); (case hd => rfl))
    | ((with_reducible apply Runs.loopK1 ((fun i0 i1 i2 i3 i4 i5 i6 => fun kk (v0_3 : Int) => boarderref13_Pooled.l0 kk v0_3 i0 i1 i2 i3 i4 i5 i6) _ _ _ _ _ _ _) [1] [] (fun b v0_3 => [(3, .imm (.int .i64 v0_3))]) (fun v0_3 => []) _ _ [] H); (case h0 => intros; rfl); (any_goals (clear H; intro k0 hk0 ih0 v0_3 H; replace H : boarderref13_Pooled.l0 (k0 + 1) v0_3 _ _ _ _ _ _ _ = some _ := H; rw [boarderref13_Pooled.l0] at H)))
    | (with_reducible apply ih0 _ _ [] _ _ (by omega) H)
    | ((with_reducible apply Runs.loopK1 ((fun i0 i1 i2 i3 i4 i5 i6 i7 => fun kk (v1_4 : Int) => boarderref13_Pooled.l1 kk i0 v1_4 i1 i2 i3 i4 i5 i6 i7) _ _ _ _ _ _ _ _) [1, 3] [] (fun b v1_4 => [(4, .imm (.int .i64 v1_4))]) (fun v1_4 => []) _ _ [] H); (case h0 => intros; rfl); (any_goals (clear H; intro k1 hk1 ih1 v1_4 H; replace H : boarderref13_Pooled.l1 (k1 + 1) _ v1_4 _ _ _ _ _ _ _ = some _ := H; rw [boarderref13_Pooled.l1] at H)))
    | (with_reducible apply ih1 _ _ [] _ _ (by omega) H)
    | ((with_reducible apply Runs.retP tysOK); (case hrs => rfl); (case h => rfl); (case hr => (cases H; exact refX)); (case hx => rfl))
    | exact leRX)
end Go.Proofs.Ytopbcamlagdieaa.PStats
set_option linter.unusedVariables false
set_option linter.unusedSimpArgs false
namespace Go.Proofs.Ytopbcamlagdieaa.PStats
open Go.RowKit Go.Proofs.YtopbcamlagdieaaW.PrintWords Go.Proofs.YtopbcamlagdieaaW.PrintLast Go.Proofs.YtopbcamlagdieaaW.PrintMore Go.Proofs.Ytopbcamlagdieaa.Abs
/-! ### boarderref01_Meet: function 73 -/
def boarderref01_Meet.j0 : Nat → Int → Int → Int → Int → Bool → Option (Bool)
  | 0, _, _, _, _, _ => none
  | k + 1, x0, x1, x2, x3, x18 => if x18 = true then (some false) else ((boarderref01_Last.f k x2 x3).bind fun t417 => (if x0 ≤ t417 then ((boarderref01_Last.f k x0 x1).bind fun t418 => (some (decide (x2 ≤ t418)))) else (some false)))
def boarderref01_Meet.f (k : Nat) (a0 : Int) (a1 : Int) (a2 : Int) (a3 : Int) : Option (Bool) := (boarderref01_Fair.f k a0 a1).bind fun t415 => (if t415 = true then ((boarderref01_Fair.f k a2 a3).bind fun t416 => (boarderref01_Meet.j0 k a0 a1 a2 a3 (!t416))) else (boarderref01_Meet.j0 k a0 a1 a2 a3 true))
noncomputable def boarderref01_Meet.cx : Cx := ⟨Try.prog, tys, glo, 31, Try.f73, [.tmp 8], 0⟩
set_option maxHeartbeats 16000000 in
set_option maxRecDepth 100000 in
theorem boarderref01_Meet.ok {k : Nat} {a0 : Int} {a1 : Int} {a2 : Int} {a3 : Int} {r0 : Bool} (H : boarderref01_Meet.f k a0 a1 a2 a3 = some r0) : CallOK Try.prog glo 73 [.imm (.int .i64 a0), .imm (.int .i64 a1), .imm (.int .i64 a2), .imm (.int .i64 a3)] (.imm (.bool r0)) := by
  unfold boarderref01_Meet.f at H
  refine CallOK.of (c := boarderref01_Meet.cx) Try.func73 (show (boarderref01_Meet.cx).fn.body = some _ from rfl) rfl rfl (Nat.le_of_ble_eq_true rfl) rfl ?_
  repeat' (first
    | ((with_reducible have hJ : boarderref01_Meet.j0 k _ _ _ _ _ = some _ := H); clear hJ; (rcases k with _ | k); (rw [boarderref01_Meet.j0] at H; cases H); (rw [boarderref01_Meet.j0] at H))
    | ((with_reducible replace H := some_ite H); obtain ⟨_, H⟩ := H)
    | (with_reducible replace H := some_bind_ H)
    | (with_reducible replace H := true_ite H)
    | (with_reducible replace H := false_ite H)
    | ((with_reducible have hb := bool_ite H); clear H; rcases hb with ⟨e_, H⟩ | ⟨e_, H⟩ <;> subst e_)
    | ((with_reducible have hb := bool_iteN H); clear H; rcases hb with ⟨e_, H⟩ | ⟨e_, H⟩ <;> subst e_)
    | ((with_reducible apply ROps.pure); (case hop => rfl); (case hw => rfl); (case hdst => rfl); (case hd => rfl))
    | (with_reducible apply ROps.nil)
    | (with_reducible apply Runs.seq)
    | (with_reducible apply Runs.region tysOK)
    | (with_reducible apply Runs.skip)
    | (with_reducible apply Runs.scope)
    | (with_reducible apply Runs.inScope)
    | (with_reducible apply Runs.label)
    | ((with_reducible apply Runs.condT); (case ho => rfl))
    | ((with_reducible apply Runs.condF); (case ho => rfl))
    | ((with_reducible apply ROps.cmp); (case hop => exact cmpX); (case hw => rfl); (case hdst => rfl); (case hd => rfl); (all_goals (intro h; first | (replace H := ite_pos_ h H) | (replace H := ite_neg_ h H) | (replace H := dec_pos h H) | (replace H := dec_neg h H) | (replace H := dec_t h H) | (replace H := dec_f h H) | (replace H := ite_pos_ (Decidable.not_not.1 h) H) | ((try simp only [rdOf] at h); (try simp only [rdOf] at H); (rw [decide_eq_true h] at H)) | ((try simp only [rdOf] at h); (try simp only [rdOf] at H); (rw [decide_eq_false h] at H)) | ((try simp only [rdOf] at h); (try simp only [rdOf] at H); (rw [if_pos h] at H)) | ((try simp only [rdOf] at h); (try simp only [rdOf] at H); (rw [if_neg h] at H)) | contradiction | skip)))
    | ((with_reducible apply ROps.off); (case hw => rfl); (case hdst => rfl); (case hd => rfl))
    | ((with_reducible have hB : (boarderref01_Fair.f _ _ _).bind _ = some _ := H); clear hB; (replace H := bind_some' H); (obtain ⟨t_, H1, H⟩ := H); (try dsimp only at H); (with_reducible apply ROps.call); (case hop => rfl); (case hc => exact boarderref01_Fair.ok H1); (case ha => exact argsX); (case hw => rfl); (case hdst => rfl); (case hd => rfl))
    | ((with_reducible have hB : (boarderref01_Last.f _ _ _).bind _ = some _ := H); clear hB; (replace H := bind_some' H); (obtain ⟨t_, H1, H⟩ := H); (try dsimp only at H); (with_reducible apply ROps.call); (case hop => rfl); (case hc => exact boarderref01_Last.ok H1); (case ha => exact argsX); (case hw => rfl); (case hdst => rfl); (case hd => rfl))
    | ((with_reducible apply Runs.retP tysOK); (case hrs => rfl); (case h => rfl); (case hr => (cases H; exact refX)); (case hx => rfl))
    | exact leRX)
end Go.Proofs.Ytopbcamlagdieaa.PStats
set_option linter.unusedVariables false
set_option linter.unusedSimpArgs false
namespace Go.Proofs.Ytopbcamlagdieaa.PStats
open Go.RowKit Go.Proofs.YtopbcamlagdieaaW.PrintWords Go.Proofs.YtopbcamlagdieaaW.PrintLast Go.Proofs.YtopbcamlagdieaaW.PrintMore Go.Proofs.Ytopbcamlagdieaa.Abs
/-! ### boarderref13_Twice: function 47 -/
mutual
def boarderref13_Twice.l0 : Nat → List (S60) → List Int → List (S65) → List Int → Int → Option (Bool)
  | 0, _, _, _, _, _ => none
  | k + 1, x3, x4, x5, x6, x7 => if x7 < (x3.length : Int) then (if 0 ≤ x7 then ((boarderref13_Pooled.f k ((rd_T60 x3 x7).f0) ((rd_T60 x3 x7).f1) ((rd_T60 x3 x7).f2) ((rd_T60 x3 x7).f3) ((rd_T60 x3 x7).f4) ((rd_T60 x3 x7).f5) ((rd_T60 x3 x7).f6)).bind fun t427 => (if t427 = true then (some true) else (boarderref13_Twice.l1 k x3 x4 x5 x6 x7 0))) else (none)) else (boarderref13_Twice.l3 k x5 x6 0)
def boarderref13_Twice.l1 : Nat → List (S60) → List Int → List (S65) → List Int → Int → Int → Option (Bool)
  | 0, _, _, _, _, _, _ => none
  | k + 1, x3, x4, x5, x6, x7, x8 => if x8 < x7 then (if 0 ≤ x7 then (if x7 < (x3.length : Int) then (if 0 ≤ x8 then (if x8 < (x3.length : Int) then ((boarderref01_Meet.f k ((rd_T60 x3 x7).f0) ((rd_T60 x3 x7).f1) ((rd_T60 x3 x8).f0) ((rd_T60 x3 x8).f1)).bind fun t432 => (if t432 = true then (some true) else (if x7 < (x4.length : Int) then (if x8 < (x4.length : Int) then (if (rd x4 x7) = (rd x4 x8) then (boarderref13_Twice.l1 k x3 x4 x5 x6 x7 (wrap64 (x8 + 1))) else (if ((rd_T60 x3 x7).f4) > 0 then (if ((rd_T60 x3 x7).f4) = ((rd_T60 x3 x8).f4) then (some true) else (boarderref13_Twice.l1 k x3 x4 x5 x6 x7 (wrap64 (x8 + 1)))) else (boarderref13_Twice.l1 k x3 x4 x5 x6 x7 (wrap64 (x8 + 1))))) else (none)) else (none)))) else (none)) else (none)) else (none)) else (none)) else (boarderref13_Twice.l2 k x3 x4 x5 x6 x7 0)
def boarderref13_Twice.l2 : Nat → List (S60) → List Int → List (S65) → List Int → Int → Int → Option (Bool)
  | 0, _, _, _, _, _, _ => none
  | k + 1, x3, x4, x5, x6, x7, x9 => if 0 ≤ x7 then (if x7 < (x3.length : Int) then (if x9 < (((rd_T60 x3 x7).f3).length : Int) then (if 0 ≤ x9 then (if x5.length < 5864062014805 then (if x7 < (x4.length : Int) then (if x6.length < 17592186044416 then (boarderref13_Twice.l2 k x3 x4 (x5 ++ [(⟨(rd_T65 ((rd_T60 x3 x7).f3) x9).f0, (rd_T65 ((rd_T60 x3 x7).f3) x9).f1⟩ : S65)]) (x6 ++ [rd x4 x7]) x7 (wrap64 (x9 + 1))) else (none)) else (none)) else (none)) else (none)) else (boarderref13_Twice.l0 k x3 x4 x5 x6 (wrap64 (x7 + 1)))) else (none)) else (none)
def boarderref13_Twice.l3 : Nat → List (S65) → List Int → Int → Option (Bool)
  | 0, _, _, _ => none
  | k + 1, x5, x6, x10 => if x10 < (x5.length : Int) then (boarderref13_Twice.l4 k x5 x6 x10 0) else (some false)
def boarderref13_Twice.l4 : Nat → List (S65) → List Int → Int → Int → Option (Bool)
  | 0, _, _, _, _ => none
  | k + 1, x5, x6, x10, x11 => if x11 < x10 then (if 0 ≤ x10 then (if x10 < (x5.length : Int) then (if 0 ≤ x11 then (if x11 < (x5.length : Int) then (if ((rd_T65 x5 x10).f1) = ((rd_T65 x5 x11).f1) then (some true) else (if x10 < (x6.length : Int) then (if x11 < (x6.length : Int) then (if (rd x6 x10) = (rd x6 x11) then (if ((rd_T65 x5 x10).f0).toList = ((rd_T65 x5 x11).f0).toList then (some true) else (boarderref13_Twice.l4 k x5 x6 x10 (wrap64 (x11 + 1)))) else (boarderref13_Twice.l4 k x5 x6 x10 (wrap64 (x11 + 1)))) else (none)) else (none))) else (none)) else (none)) else (none)) else (none)) else (boarderref13_Twice.l3 k x5 x6 (wrap64 (x10 + 1)))
end
def boarderref13_Twice.f (k : Nat) (a0_0 : Int) (a0_1 : Int) (l0_2 : List (S56)) : Option (Bool) := (boarderref13_Flat.f k a0_0 a0_1 l0_2).bind fun bt420 => (boarderref13_Twice.l0 k bt420.1 bt420.2 ([] : List (S65)) ([] : List Int) 0)
noncomputable def boarderref13_Twice.cx : Cx := ⟨Try.prog, tys, glo, 158, Try.f47, [.tmp 2], 0⟩
set_option maxHeartbeats 16000000 in
set_option maxRecDepth 100000 in
theorem boarderref13_Twice.ok {k : Nat} {a0_0 : Int} {a0_1 : Int} {l0_2 : List (S56)} {r0 : Bool} (H : boarderref13_Twice.f k a0_0 a0_1 l0_2 = some r0) : CallOK Try.prog glo 47 [.agg [.imm (.int .i64 a0_0), .imm (.int .i64 a0_1), vS56 l0_2]] (.imm (.bool r0)) := by
  unfold boarderref13_Twice.f at H
  refine CallOK.of (c := boarderref13_Twice.cx) Try.func47 (show (boarderref13_Twice.cx).fn.body = some _ from rfl) rfl rfl (Nat.le_of_ble_eq_true rfl) rfl ?_
  repeat' (first
    | ((with_reducible replace H := some_ite H); obtain ⟨_, H⟩ := H)
    | (with_reducible replace H := true_ite H)
    | (with_reducible replace H := false_ite H)
    | ((with_reducible have hb := bool_ite H); clear H; rcases hb with ⟨e_, H⟩ | ⟨e_, H⟩ <;> subst e_)
    | ((first | with_reducible apply ROps.pure | with_reducible apply DOps.pure); (case hop => rfl); (case hw => rfl); (case hdst => rfl); (case hd => rfl))
    | (first | with_reducible apply ROps.nil | with_reducible apply DOps.nil)
    | (with_reducible apply Runs.seq)
    | (with_reducible apply Runs.region tysOK)
    | ((with_reducible apply Runs.drawnE [104, 111] tysOK mixed); (case hB => kernel_rfl))
    | (with_reducible apply Runs.block)
    | (with_reducible apply Runs.skip)
    | (with_reducible apply Runs.inBlock)
    | (with_reducible apply Runs.scope)
    | (with_reducible apply Runs.inScope)
    | (with_reducible apply Runs.label)
    | ((with_reducible apply Runs.condT); (case ho => rfl))
    | ((with_reducible apply Runs.condF); (case ho => rfl))
    | ((with_reducible apply Runs.exit); (case he => rfl))
    | ((first | with_reducible apply ROps.cmp | with_reducible apply DOps.cmp); (case hop => exact cmpX); (case hw => rfl); (case hdst => rfl); (case hd => rfl); (all_goals (intro h; first | (replace H := ite_pos_ h H) | (replace H := ite_neg_ h H) | (replace H := dec_pos h H) | (replace H := dec_neg h H) | (replace H := dec_t h H) | (replace H := dec_f h H) | (replace H := beq_pos h H) | (replace H := beq_neg h H) | (replace H := beq_tt h H) | (replace H := beq_ff h H) | (replace H := ite_pos_ (Decidable.not_not.1 h) H) | (replace H := beq_pos (Decidable.not_not.1 h) H) | (replace H := beq_tt (Decidable.not_not.1 h) H) | ((try simp only [rd_T60, rd_T65, rdOf] at h); (try simp only [rd_T60, rd_T65, rdOf] at H); (rw [decide_eq_true h] at H)) | ((try simp only [rd_T60, rd_T65, rdOf] at h); (try simp only [rd_T60, rd_T65, rdOf] at H); (rw [decide_eq_false h] at H)) | ((try simp only [rd_T60, rd_T65, rdOf] at h); (try simp only [rd_T60, rd_T65, rdOf] at H); (rw [beq_t h] at H)) | ((try simp only [rd_T60, rd_T65, rdOf] at h); (try simp only [rd_T60, rd_T65, rdOf] at H); (rw [beq_f h] at H)) | ((try simp only [rd_T60, rd_T65, rdOf] at h); (try simp only [rd_T60, rd_T65, rdOf] at H); (rw [bne_t h] at H)) | ((try simp only [rd_T60, rd_T65, rdOf] at h); (try simp only [rd_T60, rd_T65, rdOf] at H); (rw [bne_f h] at H)) | ((try simp only [rd_T60, rd_T65, rdOf] at h); (try simp only [rd_T60, rd_T65, rdOf] at H); (rw [beq_t (Decidable.not_not.1 h)] at H)) | ((try simp only [rd_T60, rd_T65, rdOf] at h); (try simp only [rd_T60, rd_T65, rdOf] at H); (rw [bne_f (Decidable.not_not.1 h)] at H)) | ((try simp only [rd_T60, rd_T65, rdOf] at h); (try simp only [rd_T60, rd_T65, rdOf] at H); (rw [if_pos h] at H)) | ((try simp only [rd_T60, rd_T65, rdOf] at h); (try simp only [rd_T60, rd_T65, rdOf] at H); (rw [if_neg h] at H)) | contradiction | skip)))
    | ((first | with_reducible apply ROps.val | with_reducible apply DOps.val); (case hop => exact valX); (case hw => rfl); (case hdst => rfl); (case hd => rfl))
    | ((first | (with_reducible apply ROps.eqS; case hop => rfl) | (with_reducible apply DOps.eqS; case hop => rfl) | (with_reducible apply ROps.neS; case hop => rfl) | (with_reducible apply DOps.neS; case hop => rfl)); (case ht => rfl); (case hx => rfl); (case hy => rfl); (case hl => rfl); (case hr => rfl); (case hw => rfl); (case hdst => rfl); (case hd => rfl); (all_goals (intro h; first | (replace H := ite_posF H h) | (replace H := ite_negF H h) | (dsimp only [eqP, eqA] at h) | skip)))
    | ((first | with_reducible apply ROps.idx | with_reducible apply DOps.idx); (case hop => rfl); (case hx => rfl); (case hi => rfl); (case he => rfl); (case hw => rfl); (case hdst => rfl); (case hd => rfl); (case h0 => first | assumption | omega); (case h1 => first | assumption | omega))
    | ((first | with_reducible apply ROps.box | with_reducible apply DOps.box); (case hop => rfl); (case hx => rfl); (case hrf => rfl); (case hw => rfl); (all_goals try rfl))
    | ((first | with_reducible apply ROps.lit | with_reducible apply DOps.lit); (case hop => rfl); (case hti => rfl); (case hsz => rfl); (case hl => rfl); (case hrf => rfl); (case hw => rfl); (all_goals try rfl))
    | ((first | with_reducible apply ROps.app | with_reducible apply DOps.app); (case hop => rfl); (case hti => rfl); (case hsz => rfl); (case hs => rfl); (case hR => rfl); (case hx => rfl); (case hb => constructor <;> ((try simp only [maxLen, List.length_nil, List.length_cons, List.length_append] at *); omega)); (case hw => rfl); (all_goals try rfl))
    | ((first | with_reducible apply ROps.appN | with_reducible apply DOps.appN); (case hop => rfl); (case hti => rfl); (case hsz => rfl); (case hs => rfl); (case hx => rfl); (case hb => constructor <;> ((try simp only [maxLen, List.length_nil, List.length_cons, List.length_append] at *); omega)); (case hw => rfl); (all_goals try rfl))
    | ((first | with_reducible apply ROps.off | with_reducible apply DOps.off); (case hw => rfl); (case hdst => rfl); (case hd => rfl))
    | ((with_reducible have hB : (boarderref13_Flat.f _ _ _ _).bind _ = some _ := H); clear hB; (replace H := bind_some' H); (obtain ⟨⟨t_0, t_1⟩, H1, H⟩ := H); (try dsimp only at H); (first | with_reducible apply ROps.call | with_reducible apply DOps.call); (case hop => rfl); (case hc => exact boarderref13_Flat.ok H1); (case ha => exact argsX); (case hw => rfl); (case hdst => rfl); (case hd => rfl))
    | ((with_reducible have hB : (boarderref13_Pooled.f _ _ _ _ _ _ _ _).bind _ = some _ := H); clear hB; (replace H := bind_some' H); (obtain ⟨t_, H1, H⟩ := H); (try dsimp only at H); (first | with_reducible apply ROps.call | with_reducible apply DOps.call); (case hop => rfl); (case hc => exact boarderref13_Pooled.ok H1); (case ha => exact argsX); (case hw => rfl); (case hdst => rfl); (case hd => rfl))
    | ((with_reducible have hB : (boarderref01_Meet.f _ _ _ _ _).bind _ = some _ := H); clear hB; (replace H := bind_some' H); (obtain ⟨t_, H1, H⟩ := H); (try dsimp only at H); (first | with_reducible apply ROps.call | with_reducible apply DOps.call); (case hop => rfl); (case hc => exact boarderref01_Meet.ok H1); (case ha => exact argsX); (case hw => rfl); (case hdst => rfl); (case hd => rfl))
    | ((with_reducible apply Runs.loopK3 ((fun i0 i1 => fun kk (v0_5 : List (S65)) (v0_6 : List Int) (v0_7 : Int) => boarderref13_Twice.l0 kk i0 i1 v0_5 v0_6 v0_7) _ _) [3, 4] [] (fun b v0_5 v0_6 v0_7 => [(5, .own (b + 0) (v0_5).length 2 (rowsE eS65 z65 v0_5)), (6, .own (b + 1) (v0_6).length 1 (rowsE (eInt .i64) 0 v0_6)), (7, .imm (.int .i64 v0_7))]) (fun v0_5 v0_6 v0_7 => [.arr 65 2 (v0_5).length, .arr 3 1 (v0_6).length]) _ _ _ _ [_, _] H); (case h0 => intros; rfl); (any_goals (clear H; intro k0 hk0 ih0 v0_5 v0_6 v0_7 H; replace H : boarderref13_Twice.l0 (k0 + 1) _ _ v0_5 v0_6 v0_7 = some _ := H; rw [boarderref13_Twice.l0] at H)))
    | (with_reducible apply ih0 _ _ _ _ [_, _] _ _ (by omega) H)
    | ((with_reducible apply Runs.loopK3 ((fun i0 i1 i2 => fun kk (v1_5 : List (S65)) (v1_6 : List Int) (v1_8 : Int) => boarderref13_Twice.l1 kk i0 i1 v1_5 v1_6 i2 v1_8) _ _ _) [3, 4, 7] [] (fun b v1_5 v1_6 v1_8 => [(5, .own (b + 0) (v1_5).length 2 (rowsE eS65 z65 v1_5)), (6, .own (b + 1) (v1_6).length 1 (rowsE (eInt .i64) 0 v1_6)), (8, .imm (.int .i64 v1_8))]) (fun v1_5 v1_6 v1_8 => [.arr 65 2 (v1_5).length, .arr 3 1 (v1_6).length]) _ _ _ _ [_, _] H); (case h0 => intros; rfl); (any_goals (clear H; intro k1 hk1 ih1 v1_5 v1_6 v1_8 H; replace H : boarderref13_Twice.l1 (k1 + 1) _ _ v1_5 v1_6 _ v1_8 = some _ := H; rw [boarderref13_Twice.l1] at H)))
    | (with_reducible apply ih1 _ _ _ _ [_, _] _ _ (by omega) H)
    | ((with_reducible apply Runs.loopK3 ((fun i0 i1 i2 => fun kk (v2_5 : List (S65)) (v2_6 : List Int) (v2_9 : Int) => boarderref13_Twice.l2 kk i0 i1 v2_5 v2_6 i2 v2_9) _ _ _) [3, 4, 7] [] (fun b v2_5 v2_6 v2_9 => [(5, .own (b + 0) (v2_5).length 2 (rowsE eS65 z65 v2_5)), (6, .own (b + 1) (v2_6).length 1 (rowsE (eInt .i64) 0 v2_6)), (9, .imm (.int .i64 v2_9))]) (fun v2_5 v2_6 v2_9 => [.arr 65 2 (v2_5).length, .arr 3 1 (v2_6).length]) _ _ _ _ [_, _] H); (case h0 => intros; rfl); (any_goals (clear H; intro k2 hk2 ih2 v2_5 v2_6 v2_9 H; replace H : boarderref13_Twice.l2 (k2 + 1) _ _ v2_5 v2_6 _ v2_9 = some _ := H; rw [boarderref13_Twice.l2] at H)))
    | (with_reducible apply ih2 _ _ _ _ [_, _] _ _ (by omega) H)
    | ((with_reducible apply Runs.loopK3 ((fun kk (v3_5 : List (S65)) (v3_6 : List Int) (v3_10 : Int) => boarderref13_Twice.l3 kk v3_5 v3_6 v3_10)) [] [] (fun b v3_5 v3_6 v3_10 => [(5, .own (b + 0) (v3_5).length 2 (rowsE eS65 z65 v3_5)), (6, .own (b + 1) (v3_6).length 1 (rowsE (eInt .i64) 0 v3_6)), (10, .imm (.int .i64 v3_10))]) (fun v3_5 v3_6 v3_10 => [.arr 65 2 (v3_5).length, .arr 3 1 (v3_6).length]) _ _ _ _ [_, _] H); (case h0 => intros; rfl); (any_goals (clear H; intro k3 hk3 ih3 v3_5 v3_6 v3_10 H; replace H : boarderref13_Twice.l3 (k3 + 1) v3_5 v3_6 v3_10 = some _ := H; rw [boarderref13_Twice.l3] at H)))
    | (with_reducible apply ih3 _ _ _ _ [_, _] _ _ (by omega) H)
    | ((with_reducible apply Runs.loopK3 ((fun i0 => fun kk (v4_5 : List (S65)) (v4_6 : List Int) (v4_11 : Int) => boarderref13_Twice.l4 kk v4_5 v4_6 i0 v4_11) _) [10] [] (fun b v4_5 v4_6 v4_11 => [(5, .own (b + 0) (v4_5).length 2 (rowsE eS65 z65 v4_5)), (6, .own (b + 1) (v4_6).length 1 (rowsE (eInt .i64) 0 v4_6)), (11, .imm (.int .i64 v4_11))]) (fun v4_5 v4_6 v4_11 => [.arr 65 2 (v4_5).length, .arr 3 1 (v4_6).length]) _ _ _ _ [_, _] H); (case h0 => intros; rfl); (any_goals (clear H; intro k4 hk4 ih4 v4_5 v4_6 v4_11 H; replace H : boarderref13_Twice.l4 (k4 + 1) v4_5 v4_6 _ v4_11 = some _ := H; rw [boarderref13_Twice.l4] at H)))
    | (with_reducible apply ih4 _ _ _ _ [_, _] _ _ (by omega) H)
    | ((with_reducible apply Runs.retP tysOK); (case hrs => rfl); (case h => rfl); (case hr => (cases H; exact refX)); (case hx => rfl))
    | exact leRX)
end Go.Proofs.Ytopbcamlagdieaa.PStats
set_option linter.unusedVariables false
set_option linter.unusedSimpArgs false
namespace Go.Proofs.Ytopbcamlagdieaa.PStats
open Go.RowKit Go.Proofs.YtopbcamlagdieaaW.PrintWords Go.Proofs.YtopbcamlagdieaaW.PrintLast Go.Proofs.YtopbcamlagdieaaW.PrintMore Go.Proofs.Ytopbcamlagdieaa.Abs
/-! ### boarderref13_Check: function 24 -/
def boarderref13_Check.f (k : Nat) (a0_0 : Int) (a0_1 : Int) (l0_2 : List (S56)) : Option (Int) := (boarderref13_Form.f k a0_0 a0_1 l0_2).bind fun t455 => (if t455 = true then ((boarderref13_Places.f k a0_0 a0_1 l0_2).bind fun t456 => (if t456 = true then ((boarderref13_Twice.f k a0_0 a0_1 l0_2).bind fun t457 => (if t457 = true then (some 8) else (some 0))) else (some 9))) else (some 1))
noncomputable def boarderref13_Check.cx : Cx := ⟨Try.prog, tys, glo, 11, Try.f24, [.tmp 2], 0⟩
set_option maxHeartbeats 16000000 in
set_option maxRecDepth 100000 in
theorem boarderref13_Check.ok {k : Nat} {a0_0 : Int} {a0_1 : Int} {l0_2 : List (S56)} {r0 : Int} (H : boarderref13_Check.f k a0_0 a0_1 l0_2 = some r0) : CallOK Try.prog glo 24 [.agg [.imm (.int .i64 a0_0), .imm (.int .i64 a0_1), vS56 l0_2]] (.imm (.int .i64 r0)) := by
  unfold boarderref13_Check.f at H
  refine CallOK.of (c := boarderref13_Check.cx) Try.func24 (show (boarderref13_Check.cx).fn.body = some _ from rfl) rfl rfl (Nat.le_of_ble_eq_true rfl) rfl ?_
  repeat' (first
    | ((with_reducible replace H := some_ite H); obtain ⟨_, H⟩ := H)
    | (with_reducible replace H := true_ite H)
    | (with_reducible replace H := false_ite H)
    | ((with_reducible have hb := bool_ite H); clear H; rcases hb with ⟨e_, H⟩ | ⟨e_, H⟩ <;> subst e_)
    | ((with_reducible apply ROps.pure); (case hop => rfl); (case hw => rfl); (case hdst => rfl); (case hd => rfl))
    | (with_reducible apply ROps.nil)
    | (with_reducible apply Runs.seq)
    | (with_reducible apply Runs.region tysOK)
    | (with_reducible apply Runs.skip)
    | (with_reducible apply Runs.scope)
    | (with_reducible apply Runs.inScope)
    | (with_reducible apply Runs.label)
    | ((with_reducible apply Runs.condT); (case ho => rfl))
    | ((with_reducible apply Runs.condF); (case ho => rfl))
    | ((with_reducible apply ROps.box); (case hop => rfl); (case hx => rfl); (case hrf => rfl); (case hw => rfl); (all_goals try rfl))
    | ((with_reducible have hB : (boarderref13_Form.f _ _ _ _).bind _ = some _ := H); clear hB; (replace H := bind_some' H); (obtain ⟨t_, H1, H⟩ := H); (try dsimp only at H); (with_reducible apply ROps.call); (case hop => rfl); (case hc => exact boarderref13_Form.ok H1); (case ha => exact argsX); (case hw => rfl); (case hdst => rfl); (case hd => rfl))
    | ((with_reducible have hB : (boarderref13_Places.f _ _ _ _).bind _ = some _ := H); clear hB; (replace H := bind_some' H); (obtain ⟨t_, H1, H⟩ := H); (try dsimp only at H); (with_reducible apply ROps.call); (case hop => rfl); (case hc => exact boarderref13_Places.ok H1); (case ha => exact argsX); (case hw => rfl); (case hdst => rfl); (case hd => rfl))
    | ((with_reducible have hB : (boarderref13_Twice.f _ _ _ _).bind _ = some _ := H); clear hB; (replace H := bind_some' H); (obtain ⟨t_, H1, H⟩ := H); (try dsimp only at H); (with_reducible apply ROps.call); (case hop => rfl); (case hc => exact boarderref13_Twice.ok H1); (case ha => exact argsX); (case hw => rfl); (case hdst => rfl); (case hd => rfl))
    | ((with_reducible apply Runs.retP tysOK); (case hrs => rfl); (case h => rfl); (case hr => (cases H; exact refX)); (case hx => rfl))
    | exact leRX)
end Go.Proofs.Ytopbcamlagdieaa.PStats
set_option linter.unusedVariables false
set_option linter.unusedSimpArgs false
namespace Go.Proofs.Ytopbcamlagdieaa.PStats
open Go.RowKit Go.Proofs.YtopbcamlagdieaaW.PrintWords Go.Proofs.YtopbcamlagdieaaW.PrintLast Go.Proofs.YtopbcamlagdieaaW.PrintMore Go.Proofs.Ytopbcamlagdieaa.Abs
/-! ### boarderref09_Right: function 48 -/
def boarderref09_Right.f (a0_0 : Int) (a0_1 : Int) (a0_2 : Int) (a0_3 : ByteArray) : Option (Bool) := (boarderref01_Right.f a0_0).bind fun t459 => (if t459 = true then ((boarderref07_Right.f a0_3).bind fun t460 => (if t460 = true then (if a0_1 = 1 then (if a0_2 ≥ 0 then (some (decide (a0_2 ≤ 1125899906842624))) else (some false)) else (if a0_1 = 2 then (if a0_2 ≥ 0 then (some (decide (a0_2 ≤ 1125899906842624))) else (some false)) else (if a0_1 = 3 then (if a0_2 ≥ 0 then (some (decide (a0_2 ≤ 1125899906842624))) else (some false)) else (some false)))) else (some false))) else (some false))
noncomputable def boarderref09_Right.cx : Cx := ⟨Try.prog, tys, glo, 36, Try.f48, [.tmp 2], 0⟩
set_option maxHeartbeats 16000000 in
set_option maxRecDepth 100000 in
theorem boarderref09_Right.ok {a0_0 : Int} {a0_1 : Int} {a0_2 : Int} {a0_3 : ByteArray} {r0 : Bool} (H : boarderref09_Right.f a0_0 a0_1 a0_2 a0_3 = some r0) : CallOK Try.prog glo 48 [.agg [.imm (.int .i64 a0_0), .imm (.int .i64 a0_1), .imm (.int .i64 a0_2), .imm (.string a0_3)]] (.imm (.bool r0)) := by
  unfold boarderref09_Right.f at H
  refine CallOK.of (c := boarderref09_Right.cx) Try.func48 (show (boarderref09_Right.cx).fn.body = some _ from rfl) rfl rfl (Nat.le_of_ble_eq_true rfl) rfl ?_
  repeat' (first
    | ((with_reducible replace H := some_ite H); obtain ⟨_, H⟩ := H)
    | (with_reducible replace H := some_bind_ H)
    | (with_reducible replace H := true_ite H)
    | (with_reducible replace H := false_ite H)
    | ((with_reducible have hb := bool_ite H); clear H; rcases hb with ⟨e_, H⟩ | ⟨e_, H⟩ <;> subst e_)
    | ((with_reducible apply ROps.pure); (case hop => rfl); (case hw => rfl); (case hdst => rfl); (case hd => rfl))
    | (with_reducible apply ROps.nil)
    | (with_reducible apply Runs.seq)
    | (with_reducible apply Runs.region tysOK)
    | (with_reducible apply Runs.skip)
    | (with_reducible apply Runs.scope)
    | (with_reducible apply Runs.inScope)
    | (with_reducible apply Runs.label)
    | ((with_reducible apply Runs.condT); (case ho => rfl))
    | ((with_reducible apply Runs.condF); (case ho => rfl))
    | ((with_reducible apply ROps.cmp); (case hop => exact cmpX); (case hw => rfl); (case hdst => rfl); (case hd => rfl); (all_goals (intro h; first | (replace H := ite_pos_ h H) | (replace H := ite_neg_ h H) | (replace H := dec_pos h H) | (replace H := dec_neg h H) | (replace H := dec_t h H) | (replace H := dec_f h H) | (replace H := beq_pos h H) | (replace H := beq_neg h H) | (replace H := beq_tt h H) | (replace H := beq_ff h H) | (replace H := ite_pos_ (Decidable.not_not.1 h) H) | (replace H := beq_pos (Decidable.not_not.1 h) H) | (replace H := beq_tt (Decidable.not_not.1 h) H) | ((try simp only [rdOf] at h); (try simp only [rdOf] at H); (rw [decide_eq_true h] at H)) | ((try simp only [rdOf] at h); (try simp only [rdOf] at H); (rw [decide_eq_false h] at H)) | ((try simp only [rdOf] at h); (try simp only [rdOf] at H); (rw [beq_t h] at H)) | ((try simp only [rdOf] at h); (try simp only [rdOf] at H); (rw [beq_f h] at H)) | ((try simp only [rdOf] at h); (try simp only [rdOf] at H); (rw [bne_t h] at H)) | ((try simp only [rdOf] at h); (try simp only [rdOf] at H); (rw [bne_f h] at H)) | ((try simp only [rdOf] at h); (try simp only [rdOf] at H); (rw [beq_t (Decidable.not_not.1 h)] at H)) | ((try simp only [rdOf] at h); (try simp only [rdOf] at H); (rw [bne_f (Decidable.not_not.1 h)] at H)) | ((try simp only [rdOf] at h); (try simp only [rdOf] at H); (rw [if_pos h] at H)) | ((try simp only [rdOf] at h); (try simp only [rdOf] at H); (rw [if_neg h] at H)) | contradiction | skip)))
    | ((with_reducible apply ROps.val); (case hop => exact valX); (case hw => rfl); (case hdst => rfl); (case hd => rfl))
    | ((first | (with_reducible apply ROps.eqS; case hop => rfl) | (with_reducible apply ROps.neS; case hop => rfl)); (case ht => rfl); (case hx => rfl); (case hy => rfl); (case hl => rfl); (case hr => rfl); (case hw => rfl); (case hdst => rfl); (case hd => rfl); (all_goals (intro h; first | (replace H := ite_posF H h) | (replace H := ite_negF H h) | (dsimp only [eqP, eqA] at h) | skip)))
    | ((with_reducible apply ROps.box); (case hop => rfl); (case hx => rfl); (case hrf => rfl); (case hw => rfl); (all_goals try rfl))
    | ((with_reducible apply ROps.off); (case hw => rfl); (case hdst => rfl); (case hd => rfl))
    | ((with_reducible have hB : (boarderref07_Right.f _).bind _ = some _ := H); clear hB; (replace H := bind_some' H); (obtain ⟨t_, H1, H⟩ := H); (try dsimp only at H); (with_reducible apply ROps.call); (case hop => rfl); (case hc => exact boarderref07_Right.ok H1); (case ha => exact argsX); (case hw => rfl); (case hdst => rfl); (case hd => rfl))
    | ((with_reducible have hB : (boarderref01_Right.f _).bind _ = some _ := H); clear hB; (replace H := bind_some' H); (obtain ⟨t_, H1, H⟩ := H); (try dsimp only at H); (with_reducible apply ROps.call); (case hop => rfl); (case hc => exact boarderref01_Right.ok H1); (case ha => exact argsX); (case hw => rfl); (case hdst => rfl); (case hd => rfl))
    | ((with_reducible apply Runs.retP tysOK); (case hrs => rfl); (case h => rfl); (case hr => (cases H; exact refX)); (case hx => rfl))
    | exact leRX)
end Go.Proofs.Ytopbcamlagdieaa.PStats
set_option linter.unusedVariables false
set_option linter.unusedSimpArgs false
namespace Go.Proofs.Ytopbcamlagdieaa.PStats
open Go.RowKit Go.Proofs.YtopbcamlagdieaaW.PrintWords Go.Proofs.YtopbcamlagdieaaW.PrintLast Go.Proofs.YtopbcamlagdieaaW.PrintMore Go.Proofs.Ytopbcamlagdieaa.Abs
/-! ### boarderref12_Right: function 25 -/
def boarderref12_Right.l0 : Nat → List (S68) → Int → Option (Bool)
  | 0, _, _ => none
  | k + 1, x0, x3 => if x3 < (x0.length : Int) then (if 0 ≤ x3 then ((boarderref09_Right.f ((rd_T68 x0 x3).f0) ((rd_T68 x0 x3).f1) ((rd_T68 x0 x3).f2) ((rd_T68 x0 x3).f3)).bind fun t462 => (if t462 = true then (if (wrap64 (x3 + 1)) < (x0.length : Int) then (if 0 ≤ (wrap64 (x3 + 1)) then (if ((rd_T68 x0 (wrap64 (x3 + 1))).f0) ≤ ((rd_T68 x0 x3).f0) then (some false) else (boarderref12_Right.l0 k x0 (wrap64 (x3 + 1)))) else (none)) else (boarderref12_Right.l0 k x0 (wrap64 (x3 + 1)))) else (some false))) else (none)) else (some true)
def boarderref12_Right.f (k : Nat) (l0 : List (S68)) : Option (Bool) := if (l0.length : Int) > 64 then (some false) else (boarderref12_Right.l0 k l0 0)
def boarderref12_Right.T6 : Bool × List (List Nat × List Nat) := (true, [([], []), ([], []), ([0, 1], [0, 1]), ([2], [2]), ([3], [3]), ([4], [4]), ([5, 4], [5]), ([6], [6]), ([7, 6], [6, 7]), ([6], [6]), ([9, 6], [6, 9]), ([8, 10, 6], [6, 8, 10]), ([11, 6, 6], [6, 11]), ([12], [12]), ([12], [12]), ([14, 12], [12, 14]), ([13, 15, 12], [12, 13, 15]), ([16, 12], [12, 16]), ([17, 12], [12, 17]), ([12], [12]), ([12], [12]), ([19, 20, 12], [12, 19, 20]), ([21, 12], [12, 21]), ([22, 12], [12, 22]), ([18, 23, 12], [12, 18, 23]), ([12, 24, 6], [6, 12, 24]), ([6, 25], [6, 25])])
def boarderref12_Right.B6 : List Nat := [0, 0, 3, 7, 15, 31, 63, 127, 255, 127, 639, 2047, 4095, 8191, 8191, 24575, 65535, 131071, 262143, 8191, 8191, 1581055, 3678207, 7872511, 16777215, 33554431, 67108863]
noncomputable def boarderref12_Right.cx : Cx := ⟨Try.prog, tys, glo, 40, Try.f25, [.tmp 2], 0⟩
set_option maxHeartbeats 16000000 in
set_option maxRecDepth 100000 in
theorem boarderref12_Right.ok {k : Nat} {l0 : List (S68)} {r0 : Bool} (H : boarderref12_Right.f k l0 = some r0) : CallOK Try.prog glo 25 [vS68 l0] (.imm (.bool r0)) := by
  unfold boarderref12_Right.f at H
  refine CallOK.of (c := boarderref12_Right.cx) Try.func25 (show (boarderref12_Right.cx).fn.body = some _ from rfl) rfl rfl (Nat.le_of_ble_eq_true rfl) rfl ?_
  repeat' (first
    | ((with_reducible replace H := some_ite H); obtain ⟨_, H⟩ := H)
    | (with_reducible replace H := true_ite H)
    | (with_reducible replace H := false_ite H)
    | ((with_reducible have hb := bool_ite H); clear H; rcases hb with ⟨e_, H⟩ | ⟨e_, H⟩ <;> subst e_)
    | ((first | with_reducible apply ROps.pure | with_reducible apply DOps.pure); (case hop => rfl); (case hw => rfl); (case hdst => rfl); (case hd => rfl))
    | (first | with_reducible apply ROps.nil | with_reducible apply DOps.nil)
    | (with_reducible apply Runs.seq)
    | (with_reducible apply Runs.region tysOK)
    | ((with_reducible apply Runs.drawnE [] tysOK mixed); (case hB => kernel_rfl))
    | (with_reducible apply Runs.block)
    | (with_reducible apply Runs.skip)
    | (with_reducible apply Runs.inBlock)
    | (with_reducible apply Runs.scope)
    | (with_reducible apply Runs.inScope)
    | (with_reducible apply Runs.label)
    | ((with_reducible apply Runs.condT); (case ho => rfl))
    | ((with_reducible apply Runs.condF); (case ho => rfl))
    | ((with_reducible apply Runs.exit); (case he => rfl))
    | ((first | with_reducible apply ROps.cmp | with_reducible apply DOps.cmp); (case hop => exact cmpX); (case hw => rfl); (case hdst => rfl); (case hd => rfl); (all_goals (intro h; first | (replace H := ite_pos_ h H) | (replace H := ite_neg_ h H) | (replace H := dec_pos h H) | (replace H := dec_neg h H) | (replace H := dec_t h H) | (replace H := dec_f h H) | (replace H := ite_pos_ (Decidable.not_not.1 h) H) | ((try simp only [rd_T68, rdOf] at h); (try simp only [rd_T68, rdOf] at H); (rw [decide_eq_true h] at H)) | ((try simp only [rd_T68, rdOf] at h); (try simp only [rd_T68, rdOf] at H); (rw [decide_eq_false h] at H)) | ((try simp only [rd_T68, rdOf] at h); (try simp only [rd_T68, rdOf] at H); (rw [if_pos h] at H)) | ((try simp only [rd_T68, rdOf] at h); (try simp only [rd_T68, rdOf] at H); (rw [if_neg h] at H)) | contradiction | skip)))
    | ((first | with_reducible apply ROps.val | with_reducible apply DOps.val); (case hop => exact valX); (case hw => rfl); (case hdst => rfl); (case hd => rfl))
    | ((first | with_reducible apply ROps.idx | with_reducible apply DOps.idx); (case hop => rfl); (case hx => rfl); (case hi => rfl); (case he => rfl); (case hw => rfl); (case hdst => rfl); (case hd => rfl); (case h0 => first | assumption | omega); (case h1 => first | assumption | omega))
    | ((first | with_reducible apply ROps.off | with_reducible apply DOps.off); (case hw => rfl); (case hdst => rfl); (case hd => rfl))
    | ((with_reducible have hB : (boarderref09_Right.f _ _ _ _).bind _ = some _ := H); clear hB; (replace H := bind_some' H); (obtain ⟨t_, H1, H⟩ := H); (try dsimp only at H); (first | with_reducible apply ROps.call | with_reducible apply DOps.call); (case hop => rfl); (case hc => exact boarderref09_Right.ok H1); (case ha => exact argsX); (case hw => rfl); (case hdst => rfl); (case hd => rfl))
    | ((with_reducible apply Runs.loopK1 ((fun i0 => fun kk (v0_3 : Int) => boarderref12_Right.l0 kk i0 v0_3) _) [0] [] (fun b v0_3 => [(3, .imm (.int .i64 v0_3))]) (fun v0_3 => []) _ _ [] H); (case h0 => intros; rfl); (any_goals (clear H; intro k0 hk0 ih0 v0_3 H; replace H : boarderref12_Right.l0 (k0 + 1) _ v0_3 = some _ := H; rw [boarderref12_Right.l0] at H)))
    | (with_reducible apply ih0 _ _ [] _ _ (by omega) H)
    | ((with_reducible apply Runs.retP tysOK); (case hrs => rfl); (case h => rfl); (case hr => (cases H; exact refX)); (case hx => rfl))
    | exact leRX)
end Go.Proofs.Ytopbcamlagdieaa.PStats
set_option linter.unusedVariables false
set_option linter.unusedSimpArgs false
namespace Go.Proofs.Ytopbcamlagdieaa.PStats
open Go.RowKit Go.Proofs.YtopbcamlagdieaaW.PrintWords Go.Proofs.YtopbcamlagdieaaW.PrintLast Go.Proofs.YtopbcamlagdieaaW.PrintMore Go.Proofs.Ytopbcamlagdieaa.Abs
/-! ### boarderref15_Fair: function 12 -/
def boarderref15_Fair.f (k : Nat) (a0_0 : Int) (a0_1 : Int) (l0_2 : List (S56)) (l1 : List (S68)) (a2 : Int) (a3 : ByteArray) : Option (Bool) := (boarderref13_Check.f k a0_0 a0_1 l0_2).bind fun t466 => (if t466 = 0 then ((boarderref12_Right.f k l1).bind fun t467 => (if t467 = true then ((boarderref07_Right.f a3).bind fun t468 => (if t468 = true then (if a2 ≥ 0 then (some (decide (a2 < (l0_2.length : Int)))) else (some false)) else (some false))) else (some false))) else (some false))
noncomputable def boarderref15_Fair.cx : Cx := ⟨Try.prog, tys, glo, 31, Try.f12, [.tmp 8], 0⟩
set_option maxHeartbeats 16000000 in
set_option maxRecDepth 100000 in
theorem boarderref15_Fair.ok {k : Nat} {a0_0 : Int} {a0_1 : Int} {l0_2 : List (S56)} {l1 : List (S68)} {a2 : Int} {a3 : ByteArray} {r0 : Bool} (H : boarderref15_Fair.f k a0_0 a0_1 l0_2 l1 a2 a3 = some r0) : CallOK Try.prog glo 12 [.agg [.imm (.int .i64 a0_0), .imm (.int .i64 a0_1), vS56 l0_2], vS68 l1, .imm (.int .i64 a2), .imm (.string a3)] (.imm (.bool r0)) := by
  unfold boarderref15_Fair.f at H
  refine CallOK.of (c := boarderref15_Fair.cx) Try.func12 (show (boarderref15_Fair.cx).fn.body = some _ from rfl) rfl rfl (Nat.le_of_ble_eq_true rfl) rfl ?_
  repeat' (first
    | ((with_reducible replace H := some_ite H); obtain ⟨_, H⟩ := H)
    | (with_reducible replace H := true_ite H)
    | (with_reducible replace H := false_ite H)
    | ((with_reducible have hb := bool_ite H); clear H; rcases hb with ⟨e_, H⟩ | ⟨e_, H⟩ <;> subst e_)
    | ((with_reducible apply ROps.pure); (case hop => rfl); (case hw => rfl); (case hdst => rfl); (case hd => rfl))
    | (with_reducible apply ROps.nil)
    | (with_reducible apply Runs.seq)
    | (with_reducible apply Runs.region tysOK)
    | (with_reducible apply Runs.scope)
    | (with_reducible apply Runs.inScope)
    | (with_reducible apply Runs.label)
    | ((with_reducible apply ROps.cmp); (case hop => exact cmpX); (case hw => rfl); (case hdst => rfl); (case hd => rfl); (all_goals (intro h; first | (replace H := ite_pos_ h H) | (replace H := ite_neg_ h H) | (replace H := dec_pos h H) | (replace H := dec_neg h H) | (replace H := dec_t h H) | (replace H := dec_f h H) | (replace H := beq_pos h H) | (replace H := beq_neg h H) | (replace H := beq_tt h H) | (replace H := beq_ff h H) | (replace H := ite_pos_ (Decidable.not_not.1 h) H) | (replace H := beq_pos (Decidable.not_not.1 h) H) | (replace H := beq_tt (Decidable.not_not.1 h) H) | ((try simp only [rdOf] at h); (try simp only [rdOf] at H); (rw [decide_eq_true h] at H)) | ((try simp only [rdOf] at h); (try simp only [rdOf] at H); (rw [decide_eq_false h] at H)) | ((try simp only [rdOf] at h); (try simp only [rdOf] at H); (rw [beq_t h] at H)) | ((try simp only [rdOf] at h); (try simp only [rdOf] at H); (rw [beq_f h] at H)) | ((try simp only [rdOf] at h); (try simp only [rdOf] at H); (rw [bne_t h] at H)) | ((try simp only [rdOf] at h); (try simp only [rdOf] at H); (rw [bne_f h] at H)) | ((try simp only [rdOf] at h); (try simp only [rdOf] at H); (rw [beq_t (Decidable.not_not.1 h)] at H)) | ((try simp only [rdOf] at h); (try simp only [rdOf] at H); (rw [bne_f (Decidable.not_not.1 h)] at H)) | ((try simp only [rdOf] at h); (try simp only [rdOf] at H); (rw [if_pos h] at H)) | ((try simp only [rdOf] at h); (try simp only [rdOf] at H); (rw [if_neg h] at H)) | contradiction | skip)))
    | ((with_reducible apply ROps.val); (case hop => exact valX); (case hw => rfl); (case hdst => rfl); (case hd => rfl))
    | ((first | (with_reducible apply ROps.eqS; case hop => rfl) | (with_reducible apply ROps.neS; case hop => rfl)); (case ht => rfl); (case hx => rfl); (case hy => rfl); (case hl => rfl); (case hr => rfl); (case hw => rfl); (case hdst => rfl); (case hd => rfl); (all_goals (intro h; first | (replace H := ite_posF H h) | (replace H := ite_negF H h) | (dsimp only [eqP, eqA] at h) | skip)))
    | ((with_reducible apply ROps.box); (case hop => rfl); (case hx => rfl); (case hrf => rfl); (case hw => rfl); (all_goals try rfl))
    | ((with_reducible apply ROps.off); (case hw => rfl); (case hdst => rfl); (case hd => rfl))
    | ((with_reducible have hB : (boarderref13_Check.f _ _ _ _).bind _ = some _ := H); clear hB; (replace H := bind_some' H); (obtain ⟨t_, H1, H⟩ := H); (try dsimp only at H); (with_reducible apply ROps.call); (case hop => rfl); (case hc => exact boarderref13_Check.ok H1); (case ha => exact argsX); (case hw => rfl); (case hdst => rfl); (case hd => rfl))
    | ((with_reducible have hB : (boarderref12_Right.f _ _).bind _ = some _ := H); clear hB; (replace H := bind_some' H); (obtain ⟨t_, H1, H⟩ := H); (try dsimp only at H); (with_reducible apply ROps.call); (case hop => rfl); (case hc => exact boarderref12_Right.ok H1); (case ha => exact argsX); (case hw => rfl); (case hdst => rfl); (case hd => rfl))
    | ((with_reducible have hB : (boarderref07_Right.f _).bind _ = some _ := H); clear hB; (replace H := bind_some' H); (obtain ⟨t_, H1, H⟩ := H); (try dsimp only at H); (with_reducible apply ROps.call); (case hop => rfl); (case hc => exact boarderref07_Right.ok H1); (case ha => exact argsX); (case hw => rfl); (case hdst => rfl); (case hd => rfl))
    | ((with_reducible apply Runs.retP tysOK); (case hrs => rfl); (case h => rfl); (case hr => (cases H; exact refX)); (case hx => rfl))
    | exact leRX)
end Go.Proofs.Ytopbcamlagdieaa.PStats
set_option linter.unusedVariables false
set_option linter.unusedSimpArgs false
namespace Go.Proofs.Ytopbcamlagdieaa.PStats
open Go.RowKit Go.Proofs.YtopbcamlagdieaaW.PrintWords Go.Proofs.YtopbcamlagdieaaW.PrintLast Go.Proofs.YtopbcamlagdieaaW.PrintMore Go.Proofs.Ytopbcamlagdieaa.Abs
/-! ### boarderref13_KeptFor: function 13 -/
mutual
def boarderref13_KeptFor.j0 : Nat → Int → ByteArray → Bool → Int → Int → List (S56) → Option (Int × Bool)
  | 0, _, _, _, _, _, _ => none
  | k + 1, x1, x2, x24, x470000, x470001, x470002 => if x24 = true then (some (0, false)) else (if 0 ≤ x1 then (if x1 < (x470002.length : Int) then (boarderref13_KeptFor.l0 k x2 ((rd_T56 x470002 x1).f0) 0) else (none)) else (none))
def boarderref13_KeptFor.l0 : Nat → ByteArray → List (S60) → Int → Option (Int × Bool)
  | 0, _, _, _ => none
  | k + 1, x2, x8, x9 => if x9 < (x8.length : Int) then (boarderref13_KeptFor.l1 k x2 x8 x9 0) else (some (0, false))
def boarderref13_KeptFor.l1 : Nat → ByteArray → List (S60) → Int → Int → Option (Int × Bool)
  | 0, _, _, _, _ => none
  | k + 1, x2, x8, x9, x10 => if 0 ≤ x9 then (if x9 < (x8.length : Int) then (if x10 < (((rd_T60 x8 x9).f3).length : Int) then (if 0 ≤ x10 then (if ((rd_T65 ((rd_T60 x8 x9).f3) x10).f0).toList = x2.toList then (some ((rd_T65 ((rd_T60 x8 x9).f3) x10).f1, true)) else (boarderref13_KeptFor.l1 k x2 x8 x9 (wrap64 (x10 + 1)))) else (none)) else (boarderref13_KeptFor.l0 k x2 x8 (wrap64 (x9 + 1)))) else (none)) else (none)
end
def boarderref13_KeptFor.f (k : Nat) (a0_0 : Int) (a0_1 : Int) (l0_2 : List (S56)) (a1 : Int) (a2 : ByteArray) : Option (Int × Bool) := (boarderref13_Check.f k a0_0 a0_1 l0_2).bind fun t470 => (if t470 = 0 then (if a1 < 0 then (boarderref13_KeptFor.j0 k a1 a2 true a0_0 a0_1 l0_2) else (boarderref13_KeptFor.j0 k a1 a2 (decide (a1 ≥ (l0_2.length : Int))) a0_0 a0_1 l0_2)) else (boarderref13_KeptFor.j0 k a1 a2 true a0_0 a0_1 l0_2))
noncomputable def boarderref13_KeptFor.cx : Cx := ⟨Try.prog, tys, glo, 67, Try.f13, [.tmp 6, .tmp 7], 0⟩
set_option maxHeartbeats 16000000 in
set_option maxRecDepth 100000 in
theorem boarderref13_KeptFor.ok {k : Nat} {a0_0 : Int} {a0_1 : Int} {l0_2 : List (S56)} {a1 : Int} {a2 : ByteArray} {r0 : Int} {r1 : Bool} (H : boarderref13_KeptFor.f k a0_0 a0_1 l0_2 a1 a2 = some (r0, r1)) : CallOK Try.prog glo 13 [.agg [.imm (.int .i64 a0_0), .imm (.int .i64 a0_1), vS56 l0_2], .imm (.int .i64 a1), .imm (.string a2)] (.tup [.imm (.int .i64 r0), .imm (.bool r1)]) := by
  unfold boarderref13_KeptFor.f at H
  refine CallOK.of (c := boarderref13_KeptFor.cx) Try.func13 (show (boarderref13_KeptFor.cx).fn.body = some _ from rfl) rfl rfl (Nat.le_of_ble_eq_true rfl) rfl ?_
  repeat' (first
    | ((with_reducible have hJ : boarderref13_KeptFor.j0 k _ _ _ _ _ _ = some _ := H); clear hJ; (rcases k with _ | k); (rw [boarderref13_KeptFor.j0] at H; cases H); (rw [boarderref13_KeptFor.j0] at H))
    | ((with_reducible have hJ : boarderref13_KeptFor.j0 k0 _ _ _ _ _ _ = some _ := H); clear hJ; (rcases k0 with _ | k0); (rw [boarderref13_KeptFor.j0] at H; cases H); (rw [boarderref13_KeptFor.j0] at H))
    | ((with_reducible have hJ : boarderref13_KeptFor.j0 k1 _ _ _ _ _ _ = some _ := H); clear hJ; (rcases k1 with _ | k1); (rw [boarderref13_KeptFor.j0] at H; cases H); (rw [boarderref13_KeptFor.j0] at H))
    | ((with_reducible replace H := some_ite H); obtain ⟨_, H⟩ := H)
    | (with_reducible replace H := true_ite H)
    | (with_reducible replace H := false_ite H)
    | ((with_reducible have hb := bool_ite H); clear H; rcases hb with ⟨e_, H⟩ | ⟨e_, H⟩ <;> subst e_)
    | ((with_reducible apply ROps.pure); (case hop => rfl); (case hw => rfl); (case hdst => rfl); (case hd => rfl))
    | (with_reducible apply ROps.nil)
    | (with_reducible apply Runs.seq)
    | (with_reducible apply Runs.region tysOK)
    | (with_reducible apply Runs.block)
    | (with_reducible apply Runs.skip)
    | (with_reducible apply Runs.inBlock)
    | (with_reducible apply Runs.scope)
    | (with_reducible apply Runs.inScope)
    | (with_reducible apply Runs.label)
    | ((with_reducible apply Runs.condT); (case ho => rfl))
    | ((with_reducible apply Runs.condF); (case ho => rfl))
    | ((with_reducible apply Runs.exit); (case he => rfl))
    | ((with_reducible apply ROps.cmp); (case hop => exact cmpX); (case hw => rfl); (case hdst => rfl); (case hd => rfl); (all_goals (intro h; first | (replace H := ite_pos_ h H) | (replace H := ite_neg_ h H) | (replace H := dec_pos h H) | (replace H := dec_neg h H) | (replace H := dec_t h H) | (replace H := dec_f h H) | (replace H := beq_pos h H) | (replace H := beq_neg h H) | (replace H := beq_tt h H) | (replace H := beq_ff h H) | (replace H := ite_pos_ (Decidable.not_not.1 h) H) | (replace H := beq_pos (Decidable.not_not.1 h) H) | (replace H := beq_tt (Decidable.not_not.1 h) H) | ((try simp only [rd_T56, rd_T60, rd_T65, rdOf] at h); (try simp only [rd_T56, rd_T60, rd_T65, rdOf] at H); (rw [decide_eq_true h] at H)) | ((try simp only [rd_T56, rd_T60, rd_T65, rdOf] at h); (try simp only [rd_T56, rd_T60, rd_T65, rdOf] at H); (rw [decide_eq_false h] at H)) | ((try simp only [rd_T56, rd_T60, rd_T65, rdOf] at h); (try simp only [rd_T56, rd_T60, rd_T65, rdOf] at H); (rw [beq_t h] at H)) | ((try simp only [rd_T56, rd_T60, rd_T65, rdOf] at h); (try simp only [rd_T56, rd_T60, rd_T65, rdOf] at H); (rw [beq_f h] at H)) | ((try simp only [rd_T56, rd_T60, rd_T65, rdOf] at h); (try simp only [rd_T56, rd_T60, rd_T65, rdOf] at H); (rw [bne_t h] at H)) | ((try simp only [rd_T56, rd_T60, rd_T65, rdOf] at h); (try simp only [rd_T56, rd_T60, rd_T65, rdOf] at H); (rw [bne_f h] at H)) | ((try simp only [rd_T56, rd_T60, rd_T65, rdOf] at h); (try simp only [rd_T56, rd_T60, rd_T65, rdOf] at H); (rw [beq_t (Decidable.not_not.1 h)] at H)) | ((try simp only [rd_T56, rd_T60, rd_T65, rdOf] at h); (try simp only [rd_T56, rd_T60, rd_T65, rdOf] at H); (rw [bne_f (Decidable.not_not.1 h)] at H)) | ((try simp only [rd_T56, rd_T60, rd_T65, rdOf] at h); (try simp only [rd_T56, rd_T60, rd_T65, rdOf] at H); (rw [if_pos h] at H)) | ((try simp only [rd_T56, rd_T60, rd_T65, rdOf] at h); (try simp only [rd_T56, rd_T60, rd_T65, rdOf] at H); (rw [if_neg h] at H)) | contradiction | skip)))
    | ((with_reducible apply ROps.val); (case hop => exact valX); (case hw => rfl); (case hdst => rfl); (case hd => rfl))
    | ((first | (with_reducible apply ROps.eqS; case hop => rfl) | (with_reducible apply ROps.neS; case hop => rfl)); (case ht => rfl); (case hx => rfl); (case hy => rfl); (case hl => rfl); (case hr => rfl); (case hw => rfl); (case hdst => rfl); (case hd => rfl); (all_goals (intro h; first | (replace H := ite_posF H h) | (replace H := ite_negF H h) | (dsimp only [eqP, eqA] at h) | skip)))
    | ((with_reducible apply ROps.idx); (case hop => rfl); (case hx => rfl); (case hi => rfl); (case he => rfl); (case hw => rfl); (case hdst => rfl); (case hd => rfl); (case h0 => first | assumption | omega); (case h1 => first | assumption | omega))
    | ((with_reducible apply ROps.box); (case hop => rfl); (case hx => rfl); (case hrf => rfl); (case hw => rfl); (all_goals try rfl))
    | ((with_reducible apply ROps.off); (case hw => rfl); (case hdst => rfl); (case hd => rfl))
    | ((with_reducible have hB : (boarderref13_Check.f _ _ _ _).bind _ = some _ := H); clear hB; (replace H := bind_some' H); (obtain ⟨t_, H1, H⟩ := H); (try dsimp only at H); (with_reducible apply ROps.call); (case hop => rfl); (case hc => exact boarderref13_Check.ok H1); (case ha => exact argsX); (case hw => rfl); (case hdst => rfl); (case hd => rfl))
    | ((with_reducible apply Runs.loopK1 ((fun i0 i1 => fun kk (v0_9 : Int) => boarderref13_KeptFor.l0 kk i0 i1 v0_9) _ _) [2, 8] [] (fun b v0_9 => [(9, .imm (.int .i64 v0_9))]) (fun v0_9 => []) _ _ [] H); (case h0 => intros; rfl); (any_goals (clear H; intro k0 hk0 ih0 v0_9 H; replace H : boarderref13_KeptFor.l0 (k0 + 1) _ _ v0_9 = some _ := H; rw [boarderref13_KeptFor.l0] at H)))
    | (with_reducible apply ih0 _ _ [] _ _ (by omega) H)
    | ((with_reducible apply Runs.loopK1 ((fun i0 i1 i2 => fun kk (v1_10 : Int) => boarderref13_KeptFor.l1 kk i0 i1 i2 v1_10) _ _ _) [2, 8, 9] [] (fun b v1_10 => [(10, .imm (.int .i64 v1_10))]) (fun v1_10 => []) _ _ [] H); (case h0 => intros; rfl); (any_goals (clear H; intro k1 hk1 ih1 v1_10 H; replace H : boarderref13_KeptFor.l1 (k1 + 1) _ _ _ v1_10 = some _ := H; rw [boarderref13_KeptFor.l1] at H)))
    | (with_reducible apply ih1 _ _ [] _ _ (by omega) H)
    | ((with_reducible apply Runs.retP tysOK); (case hrs => rfl); (case h => rfl); (case hr => (cases H; exact refX)); (case hx => rfl))
    | exact leRX)
end Go.Proofs.Ytopbcamlagdieaa.PStats
set_option linter.unusedVariables false
set_option linter.unusedSimpArgs false
namespace Go.Proofs.Ytopbcamlagdieaa.PStats
open Go.RowKit Go.Proofs.YtopbcamlagdieaaW.PrintWords Go.Proofs.YtopbcamlagdieaaW.PrintLast Go.Proofs.YtopbcamlagdieaaW.PrintMore Go.Proofs.Ytopbcamlagdieaa.Abs
/-! ### boarderref12_Good: function 27 -/
def boarderref12_Good.f (k : Nat) (l0 : List S68) : Option (List S68) := (boarderref12_Right.f k l0).bind fun b => some (cond b l0 [])
noncomputable def boarderref12_Good.cx : Cx := ⟨Try.prog, tys, glo, 6, Try.f27, [.tmp 2], 0⟩
set_option maxHeartbeats 16000000 in
set_option maxRecDepth 100000 in
theorem boarderref12_Good.ok {k : Nat} {l0 : List S68} {r0 : List S68} (H : boarderref12_Good.f k l0 = some r0) : CallOK Try.prog glo 27 [vS68 l0] (vS68 r0) := by
  unfold boarderref12_Good.f at H
  refine CallOK.of (c := boarderref12_Good.cx) Try.func27 (show (boarderref12_Good.cx).fn.body = some _ from rfl) rfl rfl (Nat.le_of_ble_eq_true rfl) rfl ?_
  repeat' (first
    | ((with_reducible replace H := some_ite H); obtain ⟨_, H⟩ := H)
    | ((with_reducible have hb := cond_ite H); clear H; rcases hb with ⟨e_, H⟩ | ⟨e_, H⟩ <;> subst e_)
    | ((with_reducible apply ROps.pure); (case hop => rfl); (case hw => rfl); (case hdst => rfl); (case hd => rfl))
    | (with_reducible apply ROps.nil)
    | (with_reducible apply Runs.seq)
    | (with_reducible apply Runs.region tysOK)
    | (with_reducible apply Runs.skip)
    | (with_reducible apply Runs.scope)
    | (with_reducible apply Runs.inScope)
    | (with_reducible apply Runs.label)
    | ((with_reducible apply Runs.condT); (case ho => rfl))
    | ((with_reducible apply Runs.condF); (case ho => rfl))
    | ((with_reducible have hB : (boarderref12_Right.f _ _).bind _ = some _ := H); clear hB; (replace H := bind_some' H); (obtain ⟨t_, H1, H⟩ := H); (try dsimp only at H); (with_reducible apply ROps.call); (case hop => rfl); (case hc => exact boarderref12_Right.ok H1); (case ha => exact argsX); (case hw => rfl); (case hdst => rfl); (case hd => rfl))
    | ((with_reducible apply Runs.retP tysOK); (case hrs => rfl); (case h => rfl); (case hr => (cases H; exact refX)); (case hx => rfl))
    | exact leRX)
end Go.Proofs.Ytopbcamlagdieaa.PStats
set_option linter.unusedVariables false
set_option linter.unusedSimpArgs false
namespace Go.Proofs.Ytopbcamlagdieaa.PStats
open Go.RowKit Go.Proofs.YtopbcamlagdieaaW.PrintWords Go.Proofs.YtopbcamlagdieaaW.PrintLast Go.Proofs.YtopbcamlagdieaaW.PrintMore Go.Proofs.Ytopbcamlagdieaa.Abs
/-! ### boarderref12_Of: function 14 -/
def boarderref12_Of.l0 : Nat → List (S68) → ByteArray → List (S68) → Int → Option ((List (S68)))
  | 0, _, _, _, _ => none
  | k + 1, x0, x1, x5, x6 => if x6 < (x0.length : Int) then (if 0 ≤ x6 then (if ((rd_T68 x0 x6).f3).toList = x1.toList then (if x5.length < 3518437208883 then (boarderref12_Of.l0 k x0 x1 (x5 ++ [(⟨(rd_T68 x0 x6).f0, (rd_T68 x0 x6).f1, (rd_T68 x0 x6).f2, (rd_T68 x0 x6).f3⟩ : S68)]) (wrap64 (x6 + 1))) else (none)) else (boarderref12_Of.l0 k x0 x1 x5 (wrap64 (x6 + 1)))) else (none)) else (some x5)
def boarderref12_Of.f (k : Nat) (l0 : List (S68)) (a1 : ByteArray) : Option ((List (S68))) := (boarderref12_Good.f k l0).bind fun t478 => (boarderref12_Of.l0 k t478 a1 ([] : List (S68)) 0)
noncomputable def boarderref12_Of.cx : Cx := ⟨Try.prog, tys, glo, 30, Try.f14, [.tmp 4], 0⟩
set_option maxHeartbeats 16000000 in
set_option maxRecDepth 100000 in
theorem boarderref12_Of.ok {k : Nat} {l0 : List (S68)} {a1 : ByteArray} {r0 : List (S68)} (H : boarderref12_Of.f k l0 a1 = some r0) : CallOK Try.prog glo 14 [vS68 l0, .imm (.string a1)] (vS68 r0) := by
  unfold boarderref12_Of.f at H
  refine CallOK.of (c := boarderref12_Of.cx) Try.func14 (show (boarderref12_Of.cx).fn.body = some _ from rfl) rfl rfl (Nat.le_of_ble_eq_true rfl) rfl ?_
  repeat' (first
    | ((with_reducible replace H := some_ite H); obtain ⟨_, H⟩ := H)
    | (with_reducible replace H := true_ite H)
    | (with_reducible replace H := false_ite H)
    | ((with_reducible have hb := bool_ite H); clear H; rcases hb with ⟨e_, H⟩ | ⟨e_, H⟩ <;> subst e_)
    | ((with_reducible apply ROps.pure); (case hop => rfl); (case hw => rfl); (case hdst => rfl); (case hd => rfl))
    | (with_reducible apply ROps.nil)
    | (with_reducible apply Runs.seq)
    | (with_reducible apply Runs.region tysOK)
    | (with_reducible apply Runs.block)
    | (with_reducible apply Runs.skip)
    | (with_reducible apply Runs.inBlock)
    | (with_reducible apply Runs.scope)
    | (with_reducible apply Runs.inScope)
    | (with_reducible apply Runs.label)
    | ((with_reducible apply Runs.condT); (case ho => rfl))
    | ((with_reducible apply Runs.condF); (case ho => rfl))
    | ((with_reducible apply Runs.exit); (case he => rfl))
    | ((with_reducible apply ROps.cmp); (case hop => exact cmpX); (case hw => rfl); (case hdst => rfl); (case hd => rfl); (all_goals (intro h; first | (replace H := ite_pos_ h H) | (replace H := ite_neg_ h H) | (replace H := dec_pos h H) | (replace H := dec_neg h H) | (replace H := dec_t h H) | (replace H := dec_f h H) | (replace H := beq_pos h H) | (replace H := beq_neg h H) | (replace H := beq_tt h H) | (replace H := beq_ff h H) | (replace H := ite_pos_ (Decidable.not_not.1 h) H) | (replace H := beq_pos (Decidable.not_not.1 h) H) | (replace H := beq_tt (Decidable.not_not.1 h) H) | ((try simp only [rd_T68, rdOf] at h); (try simp only [rd_T68, rdOf] at H); (rw [decide_eq_true h] at H)) | ((try simp only [rd_T68, rdOf] at h); (try simp only [rd_T68, rdOf] at H); (rw [decide_eq_false h] at H)) | ((try simp only [rd_T68, rdOf] at h); (try simp only [rd_T68, rdOf] at H); (rw [beq_t h] at H)) | ((try simp only [rd_T68, rdOf] at h); (try simp only [rd_T68, rdOf] at H); (rw [beq_f h] at H)) | ((try simp only [rd_T68, rdOf] at h); (try simp only [rd_T68, rdOf] at H); (rw [bne_t h] at H)) | ((try simp only [rd_T68, rdOf] at h); (try simp only [rd_T68, rdOf] at H); (rw [bne_f h] at H)) | ((try simp only [rd_T68, rdOf] at h); (try simp only [rd_T68, rdOf] at H); (rw [beq_t (Decidable.not_not.1 h)] at H)) | ((try simp only [rd_T68, rdOf] at h); (try simp only [rd_T68, rdOf] at H); (rw [bne_f (Decidable.not_not.1 h)] at H)) | ((try simp only [rd_T68, rdOf] at h); (try simp only [rd_T68, rdOf] at H); (rw [if_pos h] at H)) | ((try simp only [rd_T68, rdOf] at h); (try simp only [rd_T68, rdOf] at H); (rw [if_neg h] at H)) | contradiction | skip)))
    | ((with_reducible apply ROps.val); (case hop => exact valX); (case hw => rfl); (case hdst => rfl); (case hd => rfl))
    | ((first | (with_reducible apply ROps.eqS; case hop => rfl) | (with_reducible apply ROps.neS; case hop => rfl)); (case ht => rfl); (case hx => rfl); (case hy => rfl); (case hl => rfl); (case hr => rfl); (case hw => rfl); (case hdst => rfl); (case hd => rfl); (all_goals (intro h; first | (replace H := ite_posF H h) | (replace H := ite_negF H h) | (dsimp only [eqP, eqA] at h) | skip)))
    | ((with_reducible apply ROps.idx); (case hop => rfl); (case hx => rfl); (case hi => rfl); (case he => rfl); (case hw => rfl); (case hdst => rfl); (case hd => rfl); (case h0 => first | assumption | omega); (case h1 => first | assumption | omega))
    | ((with_reducible apply ROps.lit); (case hop => rfl); (case hti => rfl); (case hsz => rfl); (case hl => rfl); (case hrf => rfl); (case hw => rfl); (all_goals try rfl))
    | ((with_reducible apply ROps.app); (case hop => rfl); (case hti => rfl); (case hsz => rfl); (case hs => rfl); (case hR => rfl); (case hx => rfl); (case hb => constructor <;> ((try simp only [maxLen, List.length_nil, List.length_cons, List.length_append] at *); omega)); (case hw => rfl); (all_goals try rfl))
    | ((with_reducible apply ROps.appN); (case hop => rfl); (case hti => rfl); (case hsz => rfl); (case hs => rfl); (case hx => rfl); (case hb => constructor <;> ((try simp only [maxLen, List.length_nil, List.length_cons, List.length_append] at *); omega)); (case hw => rfl); (all_goals try rfl))
    | ((with_reducible have hB : (boarderref12_Good.f _ _).bind _ = some _ := H); clear hB; (replace H := bind_some' H); (obtain ⟨t_, H1, H⟩ := H); (try dsimp only at H); (with_reducible apply ROps.call); (case hop => rfl); (case hc => exact boarderref12_Good.ok H1); (case ha => exact argsX); (case hw => rfl); (case hdst => rfl); (case hd => rfl))
    | ((with_reducible apply Runs.loopK2 ((fun i0 i1 => fun kk (v0_5 : List (S68)) (v0_6 : Int) => boarderref12_Of.l0 kk i0 i1 v0_5 v0_6) _ _) [0, 1] [] (fun b v0_5 v0_6 => [(5, .own (b + 0) (v0_5).length 4 (rowsE eS68 z68 v0_5)), (6, .imm (.int .i64 v0_6))]) (fun v0_5 v0_6 => [.arr 68 4 (v0_5).length]) _ _ _ [_] H); (case h0 => intros; rfl); (any_goals (clear H; intro k0 hk0 ih0 v0_5 v0_6 H; replace H : boarderref12_Of.l0 (k0 + 1) _ _ v0_5 v0_6 = some _ := H; rw [boarderref12_Of.l0] at H)))
    | (with_reducible apply ih0 _ _ _ [_] _ _ (by omega) H)
    | ((with_reducible apply Runs.retP tysOK); (case hrs => rfl); (case h => rfl); (case hr => (cases H; exact refX)); (case hx => rfl))
    | exact leRX)
end Go.Proofs.Ytopbcamlagdieaa.PStats
set_option linter.unusedVariables false
set_option linter.unusedSimpArgs false
namespace Go.Proofs.Ytopbcamlagdieaa.PStats
open Go.RowKit Go.Proofs.YtopbcamlagdieaaW.PrintWords Go.Proofs.YtopbcamlagdieaaW.PrintLast Go.Proofs.YtopbcamlagdieaaW.PrintMore Go.Proofs.Ytopbcamlagdieaa.Abs
/-! ### boarderref12_Holds: function 32 -/
def boarderref12_Holds.f (a0_0 : Int) (a0_1 : Int) (a0_2 : Int) (a0_3 : ByteArray) (a1 : Int) : Option (Bool) := if a0_1 = 1 then (some (decide (a0_2 > a1))) else (some false)
noncomputable def boarderref12_Holds.cx : Cx := ⟨Try.prog, tys, glo, 14, Try.f32, [.tmp 4], 0⟩
set_option maxHeartbeats 16000000 in
set_option maxRecDepth 100000 in
theorem boarderref12_Holds.ok {a0_0 : Int} {a0_1 : Int} {a0_2 : Int} {a0_3 : ByteArray} {a1 : Int} {r0 : Bool} (H : boarderref12_Holds.f a0_0 a0_1 a0_2 a0_3 a1 = some r0) : CallOK Try.prog glo 32 [.agg [.imm (.int .i64 a0_0), .imm (.int .i64 a0_1), .imm (.int .i64 a0_2), .imm (.string a0_3)], .imm (.int .i64 a1)] (.imm (.bool r0)) := by
  unfold boarderref12_Holds.f at H
  refine CallOK.of (c := boarderref12_Holds.cx) Try.func32 (show (boarderref12_Holds.cx).fn.body = some _ from rfl) rfl rfl (Nat.le_of_ble_eq_true rfl) rfl ?_
  repeat' (first
    | ((with_reducible replace H := some_ite H); obtain ⟨_, H⟩ := H)
    | (with_reducible replace H := true_ite H)
    | (with_reducible replace H := false_ite H)
    | ((with_reducible have hb := bool_ite H); clear H; rcases hb with ⟨e_, H⟩ | ⟨e_, H⟩ <;> subst e_)
    | ((with_reducible apply ROps.pure); (case hop => rfl); (case hw => rfl); (case hdst => rfl); (case hd => rfl))
    | (with_reducible apply ROps.nil)
    | (with_reducible apply Runs.seq)
    | (with_reducible apply Runs.region tysOK)
    | (with_reducible apply Runs.scope)
    | (with_reducible apply Runs.inScope)
    | (with_reducible apply Runs.label)
    | ((with_reducible apply ROps.cmp); (case hop => exact cmpX); (case hw => rfl); (case hdst => rfl); (case hd => rfl); (all_goals (intro h; first | (replace H := ite_pos_ h H) | (replace H := ite_neg_ h H) | (replace H := dec_pos h H) | (replace H := dec_neg h H) | (replace H := dec_t h H) | (replace H := dec_f h H) | (replace H := beq_pos h H) | (replace H := beq_neg h H) | (replace H := beq_tt h H) | (replace H := beq_ff h H) | (replace H := ite_pos_ (Decidable.not_not.1 h) H) | (replace H := beq_pos (Decidable.not_not.1 h) H) | (replace H := beq_tt (Decidable.not_not.1 h) H) | ((try simp only [rdOf] at h); (try simp only [rdOf] at H); (rw [decide_eq_true h] at H)) | ((try simp only [rdOf] at h); (try simp only [rdOf] at H); (rw [decide_eq_false h] at H)) | ((try simp only [rdOf] at h); (try simp only [rdOf] at H); (rw [beq_t h] at H)) | ((try simp only [rdOf] at h); (try simp only [rdOf] at H); (rw [beq_f h] at H)) | ((try simp only [rdOf] at h); (try simp only [rdOf] at H); (rw [bne_t h] at H)) | ((try simp only [rdOf] at h); (try simp only [rdOf] at H); (rw [bne_f h] at H)) | ((try simp only [rdOf] at h); (try simp only [rdOf] at H); (rw [beq_t (Decidable.not_not.1 h)] at H)) | ((try simp only [rdOf] at h); (try simp only [rdOf] at H); (rw [bne_f (Decidable.not_not.1 h)] at H)) | ((try simp only [rdOf] at h); (try simp only [rdOf] at H); (rw [if_pos h] at H)) | ((try simp only [rdOf] at h); (try simp only [rdOf] at H); (rw [if_neg h] at H)) | contradiction | skip)))
    | ((with_reducible apply ROps.val); (case hop => exact valX); (case hw => rfl); (case hdst => rfl); (case hd => rfl))
    | ((first | (with_reducible apply ROps.eqS; case hop => rfl) | (with_reducible apply ROps.neS; case hop => rfl)); (case ht => rfl); (case hx => rfl); (case hy => rfl); (case hl => rfl); (case hr => rfl); (case hw => rfl); (case hdst => rfl); (case hd => rfl); (all_goals (intro h; first | (replace H := ite_posF H h) | (replace H := ite_negF H h) | (dsimp only [eqP, eqA] at h) | skip)))
    | ((with_reducible apply ROps.box); (case hop => rfl); (case hx => rfl); (case hrf => rfl); (case hw => rfl); (all_goals try rfl))
    | ((with_reducible apply ROps.off); (case hw => rfl); (case hdst => rfl); (case hd => rfl))
    | ((with_reducible apply Runs.retP tysOK); (case hrs => rfl); (case h => rfl); (case hr => (cases H; exact refX)); (case hx => rfl))
    | exact leRX)
end Go.Proofs.Ytopbcamlagdieaa.PStats
set_option linter.unusedVariables false
set_option linter.unusedSimpArgs false
namespace Go.Proofs.Ytopbcamlagdieaa.PStats
open Go.RowKit Go.Proofs.YtopbcamlagdieaaW.PrintWords Go.Proofs.YtopbcamlagdieaaW.PrintLast Go.Proofs.YtopbcamlagdieaaW.PrintMore Go.Proofs.Ytopbcamlagdieaa.Abs
/-! ### boarderref13_Find: function 53 -/
mutual
def boarderref13_Find.l0 : Nat → Int → Int → Int → Int → List (S56) → Option (Int × Int × Bool)
  | 0, _, _, _, _, _ => none
  | k + 1, x1, x7, x486000, x486001, x486002 => if x7 < (x486002.length : Int) then (boarderref13_Find.l1 k x1 x7 0 x486000 x486001 x486002) else (some (0, 0, false))
def boarderref13_Find.l1 : Nat → Int → Int → Int → Int → Int → List (S56) → Option (Int × Int × Bool)
  | 0, _, _, _, _, _, _ => none
  | k + 1, x1, x7, x8, x486000, x486001, x486002 => if 0 ≤ x7 then (if x7 < (x486002.length : Int) then (if x8 < (((rd_T56 x486002 x7).f0).length : Int) then (if 0 ≤ x8 then ((boarderref01_Has.f k ((rd_T60 ((rd_T56 x486002 x7).f0) x8).f0) ((rd_T60 ((rd_T56 x486002 x7).f0) x8).f1) x1).bind fun t492 => (if t492 = true then (some (x7, x8, true)) else (boarderref13_Find.l1 k x1 x7 (wrap64 (x8 + 1)) x486000 x486001 x486002))) else (none)) else (boarderref13_Find.l0 k x1 (wrap64 (x7 + 1)) x486000 x486001 x486002)) else (none)) else (none)
end
def boarderref13_Find.f (k : Nat) (a0_0 : Int) (a0_1 : Int) (l0_2 : List (S56)) (a1 : Int) : Option (Int × Int × Bool) := (boarderref13_Check.f k a0_0 a0_1 l0_2).bind fun t486 => (if t486 = 0 then (boarderref13_Find.l0 k a1 0 a0_0 a0_1 l0_2) else (some (0, 0, false)))
noncomputable def boarderref13_Find.cx : Cx := ⟨Try.prog, tys, glo, 54, Try.f53, [.tmp 4, .tmp 5, .tmp 6], 0⟩
set_option maxHeartbeats 16000000 in
set_option maxRecDepth 100000 in
theorem boarderref13_Find.ok {k : Nat} {a0_0 : Int} {a0_1 : Int} {l0_2 : List (S56)} {a1 : Int} {r0 : Int} {r1 : Int} {r2 : Bool} (H : boarderref13_Find.f k a0_0 a0_1 l0_2 a1 = some (r0, r1, r2)) : CallOK Try.prog glo 53 [.agg [.imm (.int .i64 a0_0), .imm (.int .i64 a0_1), vS56 l0_2], .imm (.int .i64 a1)] (.tup [.imm (.int .i64 r0), .imm (.int .i64 r1), .imm (.bool r2)]) := by
  unfold boarderref13_Find.f at H
  refine CallOK.of (c := boarderref13_Find.cx) Try.func53 (show (boarderref13_Find.cx).fn.body = some _ from rfl) rfl rfl (Nat.le_of_ble_eq_true rfl) rfl ?_
  repeat' (first
    | ((with_reducible replace H := some_ite H); obtain ⟨_, H⟩ := H)
    | (with_reducible replace H := true_ite H)
    | (with_reducible replace H := false_ite H)
    | ((with_reducible have hb := bool_ite H); clear H; rcases hb with ⟨e_, H⟩ | ⟨e_, H⟩ <;> subst e_)
    | ((first | with_reducible apply ROps.pure | with_reducible apply DOps.pure); (case hop => rfl); (case hw => rfl); (case hdst => rfl); (case hd => rfl))
    | (first | with_reducible apply ROps.nil | with_reducible apply DOps.nil)
    | (with_reducible apply Runs.seq)
    | (with_reducible apply Runs.region tysOK)
    | ((with_reducible apply Runs.drawnE [] tysOK mixed); (case hB => kernel_rfl))
    | (with_reducible apply Runs.block)
    | (with_reducible apply Runs.skip)
    | (with_reducible apply Runs.inBlock)
    | (with_reducible apply Runs.scope)
    | (with_reducible apply Runs.inScope)
    | (with_reducible apply Runs.label)
    | ((with_reducible apply Runs.condT); (case ho => rfl))
    | ((with_reducible apply Runs.condF); (case ho => rfl))
    | ((with_reducible apply Runs.exit); (case he => rfl))
    | ((first | with_reducible apply ROps.cmp | with_reducible apply DOps.cmp); (case hop => exact cmpX); (case hw => rfl); (case hdst => rfl); (case hd => rfl); (all_goals (intro h; first | (replace H := ite_pos_ h H) | (replace H := ite_neg_ h H) | (replace H := dec_pos h H) | (replace H := dec_neg h H) | (replace H := dec_t h H) | (replace H := dec_f h H) | (replace H := beq_pos h H) | (replace H := beq_neg h H) | (replace H := beq_tt h H) | (replace H := beq_ff h H) | (replace H := ite_pos_ (Decidable.not_not.1 h) H) | (replace H := beq_pos (Decidable.not_not.1 h) H) | (replace H := beq_tt (Decidable.not_not.1 h) H) | ((try simp only [rd_T56, rd_T60, rdOf] at h); (try simp only [rd_T56, rd_T60, rdOf] at H); (rw [decide_eq_true h] at H)) | ((try simp only [rd_T56, rd_T60, rdOf] at h); (try simp only [rd_T56, rd_T60, rdOf] at H); (rw [decide_eq_false h] at H)) | ((try simp only [rd_T56, rd_T60, rdOf] at h); (try simp only [rd_T56, rd_T60, rdOf] at H); (rw [beq_t h] at H)) | ((try simp only [rd_T56, rd_T60, rdOf] at h); (try simp only [rd_T56, rd_T60, rdOf] at H); (rw [beq_f h] at H)) | ((try simp only [rd_T56, rd_T60, rdOf] at h); (try simp only [rd_T56, rd_T60, rdOf] at H); (rw [bne_t h] at H)) | ((try simp only [rd_T56, rd_T60, rdOf] at h); (try simp only [rd_T56, rd_T60, rdOf] at H); (rw [bne_f h] at H)) | ((try simp only [rd_T56, rd_T60, rdOf] at h); (try simp only [rd_T56, rd_T60, rdOf] at H); (rw [beq_t (Decidable.not_not.1 h)] at H)) | ((try simp only [rd_T56, rd_T60, rdOf] at h); (try simp only [rd_T56, rd_T60, rdOf] at H); (rw [bne_f (Decidable.not_not.1 h)] at H)) | ((try simp only [rd_T56, rd_T60, rdOf] at h); (try simp only [rd_T56, rd_T60, rdOf] at H); (rw [if_pos h] at H)) | ((try simp only [rd_T56, rd_T60, rdOf] at h); (try simp only [rd_T56, rd_T60, rdOf] at H); (rw [if_neg h] at H)) | contradiction | skip)))
    | ((first | with_reducible apply ROps.val | with_reducible apply DOps.val); (case hop => exact valX); (case hw => rfl); (case hdst => rfl); (case hd => rfl))
    | ((first | (with_reducible apply ROps.eqS; case hop => rfl) | (with_reducible apply DOps.eqS; case hop => rfl) | (with_reducible apply ROps.neS; case hop => rfl) | (with_reducible apply DOps.neS; case hop => rfl)); (case ht => rfl); (case hx => rfl); (case hy => rfl); (case hl => rfl); (case hr => rfl); (case hw => rfl); (case hdst => rfl); (case hd => rfl); (all_goals (intro h; first | (replace H := ite_posF H h) | (replace H := ite_negF H h) | (dsimp only [eqP, eqA] at h) | skip)))
    | ((first | with_reducible apply ROps.idx | with_reducible apply DOps.idx); (case hop => rfl); (case hx => rfl); (case hi => rfl); (case he => rfl); (case hw => rfl); (case hdst => rfl); (case hd => rfl); (case h0 => first | assumption | omega); (case h1 => first | assumption | omega))
    | ((first | with_reducible apply ROps.box | with_reducible apply DOps.box); (case hop => rfl); (case hx => rfl); (case hrf => rfl); (case hw => rfl); (all_goals try rfl))
    | ((with_reducible have hB : (boarderref13_Check.f _ _ _ _).bind _ = some _ := H); clear hB; (replace H := bind_some' H); (obtain ⟨t_, H1, H⟩ := H); (try dsimp only at H); (first | with_reducible apply ROps.call | with_reducible apply DOps.call); (case hop => rfl); (case hc => exact boarderref13_Check.ok H1); (case ha => exact argsX); (case hw => rfl); (case hdst => rfl); (case hd => rfl))
    | ((with_reducible have hB : (boarderref01_Has.f _ _ _ _).bind _ = some _ := H); clear hB; (replace H := bind_some' H); (obtain ⟨t_, H1, H⟩ := H); (try dsimp only at H); (first | with_reducible apply ROps.call | with_reducible apply DOps.call); (case hop => rfl); (case hc => exact boarderref01_Has.ok H1); (case ha => exact argsX); (case hw => rfl); (case hdst => rfl); (case hd => rfl))
    | ((with_reducible apply Runs.loopK1 ((fun i0 i1 i2 i3 => fun kk (v0_7 : Int) => boarderref13_Find.l0 kk i0 v0_7 i1 i2 i3) _ _ _ _) [1, 2] [] (fun b v0_7 => [(7, .imm (.int .i64 v0_7))]) (fun v0_7 => []) _ _ [] H); (case h0 => intros; rfl); (any_goals (clear H; intro k0 hk0 ih0 v0_7 H; replace H : boarderref13_Find.l0 (k0 + 1) _ v0_7 _ _ _ = some _ := H; rw [boarderref13_Find.l0] at H)))
    | (with_reducible apply ih0 _ _ [] _ _ (by omega) H)
    | ((with_reducible apply Runs.loopK1 ((fun i0 i1 i2 i3 i4 => fun kk (v1_8 : Int) => boarderref13_Find.l1 kk i0 i1 v1_8 i2 i3 i4) _ _ _ _ _) [1, 2, 7] [] (fun b v1_8 => [(8, .imm (.int .i64 v1_8))]) (fun v1_8 => []) _ _ [] H); (case h0 => intros; rfl); (any_goals (clear H; intro k1 hk1 ih1 v1_8 H; replace H : boarderref13_Find.l1 (k1 + 1) _ _ v1_8 _ _ _ = some _ := H; rw [boarderref13_Find.l1] at H)))
    | (with_reducible apply ih1 _ _ [] _ _ (by omega) H)
    | ((with_reducible apply Runs.retP tysOK); (case hrs => rfl); (case h => rfl); (case hr => (cases H; exact refX)); (case hx => rfl))
    | exact leRX)
end Go.Proofs.Ytopbcamlagdieaa.PStats
set_option linter.unusedVariables false
set_option linter.unusedSimpArgs false
namespace Go.Proofs.Ytopbcamlagdieaa.PStats
open Go.RowKit Go.Proofs.YtopbcamlagdieaaW.PrintWords Go.Proofs.YtopbcamlagdieaaW.PrintLast Go.Proofs.YtopbcamlagdieaaW.PrintMore Go.Proofs.Ytopbcamlagdieaa.Abs
/-! ### boarderref15_In: function 33 -/
def boarderref15_In.f (k : Nat) (a0_0 : Int) (a0_1 : Int) (l0_2 : List (S56)) (a1 : Int) (a2 : Int) : Option (Bool) := (boarderref13_Find.f k a0_0 a0_1 l0_2 a2).bind fun bt494 => (if bt494.2.2 = true then (some (bt494.1 == a1)) else (some false))
noncomputable def boarderref15_In.cx : Cx := ⟨Try.prog, tys, glo, 23, Try.f33, [.tmp 6], 0⟩
set_option maxHeartbeats 16000000 in
set_option maxRecDepth 100000 in
theorem boarderref15_In.ok {k : Nat} {a0_0 : Int} {a0_1 : Int} {l0_2 : List (S56)} {a1 : Int} {a2 : Int} {r0 : Bool} (H : boarderref15_In.f k a0_0 a0_1 l0_2 a1 a2 = some r0) : CallOK Try.prog glo 33 [.agg [.imm (.int .i64 a0_0), .imm (.int .i64 a0_1), vS56 l0_2], .imm (.int .i64 a1), .imm (.int .i64 a2)] (.imm (.bool r0)) := by
  unfold boarderref15_In.f at H
  refine CallOK.of (c := boarderref15_In.cx) Try.func33 (show (boarderref15_In.cx).fn.body = some _ from rfl) rfl rfl (Nat.le_of_ble_eq_true rfl) rfl ?_
  repeat' (first
    | ((with_reducible replace H := some_ite H); obtain ⟨_, H⟩ := H)
    | (with_reducible replace H := true_ite H)
    | (with_reducible replace H := false_ite H)
    | ((with_reducible have hb := bool_ite H); clear H; rcases hb with ⟨e_, H⟩ | ⟨e_, H⟩ <;> subst e_)
    | ((with_reducible apply ROps.pure); (case hop => rfl); (case hw => rfl); (case hdst => rfl); (case hd => rfl))
    | (with_reducible apply ROps.nil)
    | (with_reducible apply Runs.seq)
    | (with_reducible apply Runs.region tysOK)
    | (with_reducible apply Runs.scope)
    | (with_reducible apply Runs.inScope)
    | (with_reducible apply Runs.label)
    | ((with_reducible apply ROps.cmp); (case hop => exact cmpX); (case hw => rfl); (case hdst => rfl); (case hd => rfl); (all_goals (intro h; first | (replace H := ite_pos_ h H) | (replace H := ite_neg_ h H) | (replace H := dec_pos h H) | (replace H := dec_neg h H) | (replace H := dec_t h H) | (replace H := dec_f h H) | (replace H := beq_pos h H) | (replace H := beq_neg h H) | (replace H := beq_tt h H) | (replace H := beq_ff h H) | (replace H := ite_pos_ (Decidable.not_not.1 h) H) | (replace H := beq_pos (Decidable.not_not.1 h) H) | (replace H := beq_tt (Decidable.not_not.1 h) H) | ((try simp only [rdOf] at h); (try simp only [rdOf] at H); (rw [decide_eq_true h] at H)) | ((try simp only [rdOf] at h); (try simp only [rdOf] at H); (rw [decide_eq_false h] at H)) | ((try simp only [rdOf] at h); (try simp only [rdOf] at H); (rw [beq_t h] at H)) | ((try simp only [rdOf] at h); (try simp only [rdOf] at H); (rw [beq_f h] at H)) | ((try simp only [rdOf] at h); (try simp only [rdOf] at H); (rw [beq_t (Decidable.not_not.1 h)] at H)) | ((try simp only [rdOf] at h); (try simp only [rdOf] at H); (rw [if_pos h] at H)) | ((try simp only [rdOf] at h); (try simp only [rdOf] at H); (rw [if_neg h] at H)) | contradiction | skip)))
    | ((with_reducible apply ROps.val); (case hop => exact valX); (case hw => rfl); (case hdst => rfl); (case hd => rfl))
    | ((first | (with_reducible apply ROps.eqS; case hop => rfl) | (with_reducible apply ROps.neS; case hop => rfl)); (case ht => rfl); (case hx => rfl); (case hy => rfl); (case hl => rfl); (case hr => rfl); (case hw => rfl); (case hdst => rfl); (case hd => rfl); (all_goals (intro h; first | (replace H := ite_posF H h) | (replace H := ite_negF H h) | (dsimp only [eqP, eqA] at h) | skip)))
    | ((with_reducible apply ROps.box); (case hop => rfl); (case hx => rfl); (case hrf => rfl); (case hw => rfl); (all_goals try rfl))
    | ((with_reducible apply ROps.off); (case hw => rfl); (case hdst => rfl); (case hd => rfl))
    | ((with_reducible have hB : (boarderref13_Find.f _ _ _ _ _).bind _ = some _ := H); clear hB; (replace H := bind_some' H); (obtain ⟨⟨t_0, t_1, t_2⟩, H1, H⟩ := H); (try dsimp only at H); (with_reducible apply ROps.call); (case hop => rfl); (case hc => exact boarderref13_Find.ok H1); (case ha => exact argsX); (case hw => rfl); (case hdst => rfl); (case hd => rfl))
    | ((with_reducible apply Runs.retP tysOK); (case hrs => rfl); (case h => rfl); (case hr => (cases H; exact refX)); (case hx => rfl))
    | exact leRX)
end Go.Proofs.Ytopbcamlagdieaa.PStats
set_option linter.unusedVariables false
set_option linter.unusedSimpArgs false
namespace Go.Proofs.Ytopbcamlagdieaa.PStats
open Go.RowKit Go.Proofs.YtopbcamlagdieaaW.PrintWords Go.Proofs.YtopbcamlagdieaaW.PrintLast Go.Proofs.YtopbcamlagdieaaW.PrintMore Go.Proofs.Ytopbcamlagdieaa.Abs
/-! ### boarderref15_other: function 54 -/
def boarderref15_other.l0 : Nat → List (S68) → Int → ByteArray → Int → Int → Int → Int → Int → List (S56) → Option (Bool)
  | 0, _, _, _, _, _, _, _, _, _ => none
  | k + 1, x1, x2, x3, x4, x5, x13, x498000, x498001, x498002 => if x13 < (x1.length : Int) then (if 0 ≤ x13 then (if ((rd_T68 x1 x13).f3).toList = x3.toList then (if ((rd_T68 x1 x13).f0) = x4 then (boarderref15_other.l0 k x1 x2 x3 x4 x5 (wrap64 (x13 + 1)) x498000 x498001 x498002) else ((boarderref12_Holds.f ((rd_T68 x1 x13).f0) ((rd_T68 x1 x13).f1) ((rd_T68 x1 x13).f2) ((rd_T68 x1 x13).f3) x5).bind fun t501 => (if t501 = true then ((boarderref15_In.f k x498000 x498001 x498002 x2 ((rd_T68 x1 x13).f0)).bind fun t503 => (if t503 = true then (some true) else (boarderref15_other.l0 k x1 x2 x3 x4 x5 (wrap64 (x13 + 1)) x498000 x498001 x498002))) else (boarderref15_other.l0 k x1 x2 x3 x4 x5 (wrap64 (x13 + 1)) x498000 x498001 x498002)))) else (boarderref15_other.l0 k x1 x2 x3 x4 x5 (wrap64 (x13 + 1)) x498000 x498001 x498002)) else (none)) else (some false)
def boarderref15_other.f (k : Nat) (a0_0 : Int) (a0_1 : Int) (l0_2 : List (S56)) (l1 : List (S68)) (a2 : Int) (a3 : ByteArray) (a4 : Int) (a5 : Int) : Option (Bool) := boarderref15_other.l0 k l1 a2 a3 a4 a5 0 a0_0 a0_1 l0_2
def boarderref15_other.T4 : Bool × List (List Nat × List Nat) := (true, [([], []), ([], []), ([0, 1], [0, 1]), ([2], [2]), ([3], [3]), ([], []), ([4, 5], [4, 5]), ([6], [6]), ([7], [7]), ([7], [7]), ([8, 9, 7], [7, 8, 9]), ([10, 7], [7, 10]), ([11, 7], [7, 11]), ([7], [7]), ([12, 13, 7], [7, 12, 13]), ([7, 14], [7, 14]), ([15, 7], [15]), ([16], [16]), ([16], [16]), ([17, 18, 16], [16, 17, 18]), ([19, 16], [16, 19]), ([16], [16]), ([20, 21, 16, 16], [16, 20, 21]), ([16, 22], [16, 22]), ([23, 22], [23]), ([24], [24]), ([24], [24]), ([24], [24]), ([24], [24]), ([27, 28, 24], [24, 27, 28]), ([29, 24], [24, 29]), ([30, 24], [24, 30]), ([25, 26, 31, 24, 24], [24, 25, 26, 31]), ([24, 32], [24, 32])])
def boarderref15_other.B4 : List Nat := [0, 0, 3, 7, 15, 0, 63, 127, 255, 255, 1023, 2047, 4095, 255, 16383, 32767, 65535, 131071, 131071, 524287, 1048575, 131071, 4194303, 8388607, 16777215, 33554431, 33554431, 33554431, 33554431, 436207615, 973078527, 2046820351, 4294967295, 8589934591]
noncomputable def boarderref15_other.cx : Cx := ⟨Try.prog, tys, glo, 54, Try.f54, [.tmp 12], 0⟩
set_option maxHeartbeats 16000000 in
set_option maxRecDepth 100000 in
theorem boarderref15_other.ok {k : Nat} {a0_0 : Int} {a0_1 : Int} {l0_2 : List (S56)} {l1 : List (S68)} {a2 : Int} {a3 : ByteArray} {a4 : Int} {a5 : Int} {r0 : Bool} (H : boarderref15_other.f k a0_0 a0_1 l0_2 l1 a2 a3 a4 a5 = some r0) : CallOK Try.prog glo 54 [.agg [.imm (.int .i64 a0_0), .imm (.int .i64 a0_1), vS56 l0_2], vS68 l1, .imm (.int .i64 a2), .imm (.string a3), .imm (.int .i64 a4), .imm (.int .i64 a5)] (.imm (.bool r0)) := by
  unfold boarderref15_other.f at H
  refine CallOK.of (c := boarderref15_other.cx) Try.func54 (show (boarderref15_other.cx).fn.body = some _ from rfl) rfl rfl (Nat.le_of_ble_eq_true rfl) rfl ?_
  repeat' (first
    | ((with_reducible replace H := some_ite H); obtain ⟨_, H⟩ := H)
    | (with_reducible replace H := true_ite H)
    | (with_reducible replace H := false_ite H)
    | ((with_reducible have hb := bool_ite H); clear H; rcases hb with ⟨e_, H⟩ | ⟨e_, H⟩ <;> subst e_)
    | ((first | with_reducible apply ROps.pure | with_reducible apply DOps.pure); (case hop => rfl); (case hw => rfl); (case hdst => rfl); (case hd => rfl))
    | (first | with_reducible apply ROps.nil | with_reducible apply DOps.nil)
    | (with_reducible apply Runs.seq)
    | (with_reducible apply Runs.region tysOK)
    | ((with_reducible apply Runs.drawnE [] tysOK mixed); (case hB => kernel_rfl))
    | (with_reducible apply Runs.block)
    | (with_reducible apply Runs.skip)
    | (with_reducible apply Runs.inBlock)
    | (with_reducible apply Runs.scope)
    | (with_reducible apply Runs.inScope)
    | (with_reducible apply Runs.label)
    | ((with_reducible apply Runs.condT); (case ho => rfl))
    | ((with_reducible apply Runs.condF); (case ho => rfl))
    | ((with_reducible apply Runs.exit); (case he => rfl))
    | ((first | with_reducible apply ROps.cmp | with_reducible apply DOps.cmp); (case hop => exact cmpX); (case hw => rfl); (case hdst => rfl); (case hd => rfl); (all_goals (intro h; first | (replace H := ite_pos_ h H) | (replace H := ite_neg_ h H) | (replace H := dec_pos h H) | (replace H := dec_neg h H) | (replace H := dec_t h H) | (replace H := dec_f h H) | (replace H := beq_pos h H) | (replace H := beq_neg h H) | (replace H := beq_tt h H) | (replace H := beq_ff h H) | (replace H := ite_pos_ (Decidable.not_not.1 h) H) | (replace H := beq_pos (Decidable.not_not.1 h) H) | (replace H := beq_tt (Decidable.not_not.1 h) H) | ((try simp only [rd_T68, rdOf] at h); (try simp only [rd_T68, rdOf] at H); (rw [decide_eq_true h] at H)) | ((try simp only [rd_T68, rdOf] at h); (try simp only [rd_T68, rdOf] at H); (rw [decide_eq_false h] at H)) | ((try simp only [rd_T68, rdOf] at h); (try simp only [rd_T68, rdOf] at H); (rw [beq_t h] at H)) | ((try simp only [rd_T68, rdOf] at h); (try simp only [rd_T68, rdOf] at H); (rw [beq_f h] at H)) | ((try simp only [rd_T68, rdOf] at h); (try simp only [rd_T68, rdOf] at H); (rw [bne_t h] at H)) | ((try simp only [rd_T68, rdOf] at h); (try simp only [rd_T68, rdOf] at H); (rw [bne_f h] at H)) | ((try simp only [rd_T68, rdOf] at h); (try simp only [rd_T68, rdOf] at H); (rw [beq_t (Decidable.not_not.1 h)] at H)) | ((try simp only [rd_T68, rdOf] at h); (try simp only [rd_T68, rdOf] at H); (rw [bne_f (Decidable.not_not.1 h)] at H)) | ((try simp only [rd_T68, rdOf] at h); (try simp only [rd_T68, rdOf] at H); (rw [if_pos h] at H)) | ((try simp only [rd_T68, rdOf] at h); (try simp only [rd_T68, rdOf] at H); (rw [if_neg h] at H)) | contradiction | skip)))
    | ((first | with_reducible apply ROps.val | with_reducible apply DOps.val); (case hop => exact valX); (case hw => rfl); (case hdst => rfl); (case hd => rfl))
    | ((first | (with_reducible apply ROps.eqS; case hop => rfl) | (with_reducible apply DOps.eqS; case hop => rfl) | (with_reducible apply ROps.neS; case hop => rfl) | (with_reducible apply DOps.neS; case hop => rfl)); (case ht => rfl); (case hx => rfl); (case hy => rfl); (case hl => rfl); (case hr => rfl); (case hw => rfl); (case hdst => rfl); (case hd => rfl); (all_goals (intro h; first | (replace H := ite_posF H h) | (replace H := ite_negF H h) | (dsimp only [eqP, eqA] at h) | skip)))
    | ((first | with_reducible apply ROps.idx | with_reducible apply DOps.idx); (case hop => rfl); (case hx => rfl); (case hi => rfl); (case he => rfl); (case hw => rfl); (case hdst => rfl); (case hd => rfl); (case h0 => first | assumption | omega); (case h1 => first | assumption | omega))
    | ((first | with_reducible apply ROps.box | with_reducible apply DOps.box); (case hop => rfl); (case hx => rfl); (case hrf => rfl); (case hw => rfl); (all_goals try rfl))
    | ((first | with_reducible apply ROps.off | with_reducible apply DOps.off); (case hw => rfl); (case hdst => rfl); (case hd => rfl))
    | ((with_reducible have hB : (boarderref12_Holds.f _ _ _ _ _).bind _ = some _ := H); clear hB; (replace H := bind_some' H); (obtain ⟨t_, H1, H⟩ := H); (try dsimp only at H); (first | with_reducible apply ROps.call | with_reducible apply DOps.call); (case hop => rfl); (case hc => exact boarderref12_Holds.ok H1); (case ha => exact argsX); (case hw => rfl); (case hdst => rfl); (case hd => rfl))
    | ((with_reducible have hB : (boarderref15_In.f _ _ _ _ _ _).bind _ = some _ := H); clear hB; (replace H := bind_some' H); (obtain ⟨t_, H1, H⟩ := H); (try dsimp only at H); (first | with_reducible apply ROps.call | with_reducible apply DOps.call); (case hop => rfl); (case hc => exact boarderref15_In.ok H1); (case ha => exact argsX); (case hw => rfl); (case hdst => rfl); (case hd => rfl))
    | ((with_reducible apply Runs.loopK1 ((fun i0 i1 i2 i3 i4 i5 i6 i7 => fun kk (v0_13 : Int) => boarderref15_other.l0 kk i0 i1 i2 i3 i4 v0_13 i5 i6 i7) _ _ _ _ _ _ _ _) [1, 2, 3, 4, 5, 6] [] (fun b v0_13 => [(13, .imm (.int .i64 v0_13))]) (fun v0_13 => []) _ _ [] H); (case h0 => intros; rfl); (any_goals (clear H; intro k0 hk0 ih0 v0_13 H; replace H : boarderref15_other.l0 (k0 + 1) _ _ _ _ _ v0_13 _ _ _ = some _ := H; rw [boarderref15_other.l0] at H)))
    | (with_reducible apply ih0 _ _ [] _ _ (by omega) H)
    | ((with_reducible apply Runs.retP tysOK); (case hrs => rfl); (case h => rfl); (case hr => (cases H; exact refX)); (case hx => rfl))
    | exact leRX)
end Go.Proofs.Ytopbcamlagdieaa.PStats
set_option linter.unusedVariables false
set_option linter.unusedSimpArgs false
namespace Go.Proofs.Ytopbcamlagdieaa.PStats
open Go.RowKit Go.Proofs.YtopbcamlagdieaaW.PrintWords Go.Proofs.YtopbcamlagdieaaW.PrintLast Go.Proofs.YtopbcamlagdieaaW.PrintMore Go.Proofs.Ytopbcamlagdieaa.Abs
/-! ### boarderref12_Get: function 76 -/
def boarderref12_Get.l0 : Nat → List (S68) → Int → Int → Option (Int × Int × Int × ByteArray × Bool)
  | 0, _, _, _ => none
  | k + 1, x0, x1, x6 => if x6 < (x0.length : Int) then (if 0 ≤ x6 then (if ((rd_T68 x0 x6).f0) = x1 then (some ((rd_T68 x0 x6).f0, (rd_T68 x0 x6).f1, (rd_T68 x0 x6).f2, (rd_T68 x0 x6).f3, true)) else (boarderref12_Get.l0 k x0 x1 (wrap64 (x6 + 1)))) else (none)) else (some (0, 0, 0, (⟨#[]⟩ : ByteArray), false))
def boarderref12_Get.f (k : Nat) (l0 : List (S68)) (a1 : Int) : Option (Int × Int × Int × ByteArray × Bool) := (boarderref12_Good.f k l0).bind fun t506 => (boarderref12_Get.l0 k t506 a1 0)
noncomputable def boarderref12_Get.cx : Cx := ⟨Try.prog, tys, glo, 27, Try.f76, [.cell 4 68, .tmp 5], 0⟩
set_option maxHeartbeats 16000000 in
set_option maxRecDepth 100000 in
theorem boarderref12_Get.ok {k : Nat} {l0 : List (S68)} {a1 : Int} {r0 : Int} {r1 : Int} {r2 : Int} {r3 : ByteArray} {r4 : Bool} (H : boarderref12_Get.f k l0 a1 = some (r0, r1, r2, r3, r4)) : CallOK Try.prog glo 76 [vS68 l0, .imm (.int .i64 a1)] (.tup [.agg [.imm (.int .i64 r0), .imm (.int .i64 r1), .imm (.int .i64 r2), .imm (.string r3)], .imm (.bool r4)]) := by
  unfold boarderref12_Get.f at H
  refine CallOK.of (c := boarderref12_Get.cx) Try.func76 (show (boarderref12_Get.cx).fn.body = some _ from rfl) rfl rfl (Nat.le_of_ble_eq_true rfl) rfl ?_
  repeat' (first
    | ((with_reducible replace H := some_ite H); obtain ⟨_, H⟩ := H)
    | (with_reducible replace H := true_ite H)
    | (with_reducible replace H := false_ite H)
    | ((with_reducible have hb := bool_ite H); clear H; rcases hb with ⟨e_, H⟩ | ⟨e_, H⟩ <;> subst e_)
    | ((with_reducible apply ROps.build); (case hb => rfl); (case hop => rfl); (case hl => first | (dsimp only [List.take, List.drop, List.nil_append, List.cons_append, List.map, List.length, Nat.reduceAdd]; rfl) | rfl); (case hw => rfl); (case hdst => rfl); (case hd => rfl))
    | ((with_reducible apply ROps.pure); (case hop => rfl); (case hw => rfl); (case hdst => rfl); (case hd => rfl))
    | (with_reducible apply ROps.nil)
    | (with_reducible apply Runs.seq)
    | (with_reducible apply Runs.region tysOK)
    | (with_reducible apply Runs.block)
    | (with_reducible apply Runs.skip)
    | (with_reducible apply Runs.inBlock)
    | (with_reducible apply Runs.scope)
    | (with_reducible apply Runs.inScope)
    | (with_reducible apply Runs.label)
    | ((with_reducible apply Runs.condT); (case ho => rfl))
    | ((with_reducible apply Runs.condF); (case ho => rfl))
    | ((with_reducible apply Runs.exit); (case he => rfl))
    | ((with_reducible apply ROps.store); (case hop => rfl); (case hp => rfl); (case hR => rfl); (case hc => rfl); (case hl => first | (dsimp only [setR_one, setR, Nat.beq, cond]; done) | (dsimp only [setR_one, setR, Nat.beq, cond]; rfl) | rfl); (case hl' => first | (dsimp only [List.take, List.drop, List.append, List.nil_append, List.cons_append, List.map, List.length, Nat.add]; rfl) | rfl); (case hw => rfl); (all_goals try rfl))
    | ((with_reducible apply ROps.cmp); (case hop => exact cmpX); (case hw => rfl); (case hdst => rfl); (case hd => rfl); (all_goals (intro h; first | (replace H := ite_pos_ h H) | (replace H := ite_neg_ h H) | (replace H := dec_pos h H) | (replace H := dec_neg h H) | (replace H := dec_t h H) | (replace H := dec_f h H) | (replace H := beq_pos h H) | (replace H := beq_neg h H) | (replace H := beq_tt h H) | (replace H := beq_ff h H) | (replace H := ite_pos_ (Decidable.not_not.1 h) H) | (replace H := beq_pos (Decidable.not_not.1 h) H) | (replace H := beq_tt (Decidable.not_not.1 h) H) | ((try simp only [rd_T68, rdOf] at h); (try simp only [rd_T68, rdOf] at H); (rw [decide_eq_true h] at H)) | ((try simp only [rd_T68, rdOf] at h); (try simp only [rd_T68, rdOf] at H); (rw [decide_eq_false h] at H)) | ((try simp only [rd_T68, rdOf] at h); (try simp only [rd_T68, rdOf] at H); (rw [beq_t h] at H)) | ((try simp only [rd_T68, rdOf] at h); (try simp only [rd_T68, rdOf] at H); (rw [beq_f h] at H)) | ((try simp only [rd_T68, rdOf] at h); (try simp only [rd_T68, rdOf] at H); (rw [bne_t h] at H)) | ((try simp only [rd_T68, rdOf] at h); (try simp only [rd_T68, rdOf] at H); (rw [bne_f h] at H)) | ((try simp only [rd_T68, rdOf] at h); (try simp only [rd_T68, rdOf] at H); (rw [beq_t (Decidable.not_not.1 h)] at H)) | ((try simp only [rd_T68, rdOf] at h); (try simp only [rd_T68, rdOf] at H); (rw [bne_f (Decidable.not_not.1 h)] at H)) | ((try simp only [rd_T68, rdOf] at h); (try simp only [rd_T68, rdOf] at H); (rw [if_pos h] at H)) | ((try simp only [rd_T68, rdOf] at h); (try simp only [rd_T68, rdOf] at H); (rw [if_neg h] at H)) | contradiction | skip)))
    | ((with_reducible apply ROps.val); (case hop => exact valX); (case hw => rfl); (case hdst => rfl); (case hd => rfl))
    | ((first | (with_reducible apply ROps.eqS; case hop => rfl) | (with_reducible apply ROps.neS; case hop => rfl)); (case ht => rfl); (case hx => rfl); (case hy => rfl); (case hl => rfl); (case hr => rfl); (case hw => rfl); (case hdst => rfl); (case hd => rfl); (all_goals (intro h; first | (replace H := ite_posF H h) | (replace H := ite_negF H h) | (dsimp only [eqP, eqA] at h) | skip)))
    | ((with_reducible apply ROps.idx); (case hop => rfl); (case hx => rfl); (case hi => rfl); (case he => rfl); (case hw => rfl); (case hdst => rfl); (case hd => rfl); (case h0 => first | assumption | omega); (case h1 => first | assumption | omega))
    | ((with_reducible apply ROps.alloc); (case hop => rfl); (case hw => rfl); (all_goals try rfl))
    | ((with_reducible have hB : (boarderref12_Good.f _ _).bind _ = some _ := H); clear hB; (replace H := bind_some' H); (obtain ⟨t_, H1, H⟩ := H); (try dsimp only at H); (with_reducible apply ROps.call); (case hop => rfl); (case hc => exact boarderref12_Good.ok H1); (case ha => exact argsX); (case hw => rfl); (case hdst => rfl); (case hd => rfl))
    | ((with_reducible apply Runs.loopK1 ((fun i0 i1 => fun kk (v0_6 : Int) => boarderref12_Get.l0 kk i0 i1 v0_6) _ _) [0, 1, 4] [] (fun b v0_6 => [(6, .imm (.int .i64 v0_6))]) (fun v0_6 => []) _ _ [] H); (case h0 => intros; rfl); (any_goals (clear H; intro k0 hk0 ih0 v0_6 H; replace H : boarderref12_Get.l0 (k0 + 1) _ _ v0_6 = some _ := H; rw [boarderref12_Get.l0] at H)))
    | (with_reducible apply ih0 _ _ [] _ _ (by omega) H)
    | ((with_reducible apply Runs.retP tysOK); (case hrs => rfl); (case h => rfl); (case hr => (cases H; exact refX)); (case hx => rfl))
    | exact leRX)
end Go.Proofs.Ytopbcamlagdieaa.PStats
set_option linter.unusedVariables false
set_option linter.unusedSimpArgs false
namespace Go.Proofs.Ytopbcamlagdieaa.PStats
open Go.RowKit Go.Proofs.YtopbcamlagdieaaW.PrintWords Go.Proofs.YtopbcamlagdieaaW.PrintLast Go.Proofs.YtopbcamlagdieaaW.PrintMore Go.Proofs.Ytopbcamlagdieaa.Abs
/-! ### boarderref12_Free: function 55 -/
def boarderref12_Free.f (k : Nat) (l0 : List (S68)) (a1 : Int) (a2 : ByteArray) (a3 : Int) : Option (Bool) := (boarderref12_Get.f k l0 a1).bind fun bt509 => (if bt509.2.2.2.2 = true then (if bt509.2.1 = 2 then (some true) else (if a3 ≥ bt509.2.2.1 then (some true) else (if bt509.2.1 = 1 then (some (bt509.2.2.2.1.toList == a2.toList)) else (some false)))) else (some true))
noncomputable def boarderref12_Free.cx : Cx := ⟨Try.prog, tys, glo, 39, Try.f55, [.tmp 8], 0⟩
set_option maxHeartbeats 16000000 in
set_option maxRecDepth 100000 in
theorem boarderref12_Free.ok {k : Nat} {l0 : List (S68)} {a1 : Int} {a2 : ByteArray} {a3 : Int} {r0 : Bool} (H : boarderref12_Free.f k l0 a1 a2 a3 = some r0) : CallOK Try.prog glo 55 [vS68 l0, .imm (.int .i64 a1), .imm (.string a2), .imm (.int .i64 a3)] (.imm (.bool r0)) := by
  unfold boarderref12_Free.f at H
  refine CallOK.of (c := boarderref12_Free.cx) Try.func55 (show (boarderref12_Free.cx).fn.body = some _ from rfl) rfl rfl (Nat.le_of_ble_eq_true rfl) rfl ?_
  repeat' (first
    | ((with_reducible replace H := some_ite H); obtain ⟨_, H⟩ := H)
    | (with_reducible replace H := true_ite H)
    | (with_reducible replace H := false_ite H)
    | ((with_reducible have hb := bool_ite H); clear H; rcases hb with ⟨e_, H⟩ | ⟨e_, H⟩ <;> subst e_)
    | ((with_reducible apply ROps.pure); (case hop => rfl); (case hw => rfl); (case hdst => rfl); (case hd => rfl))
    | (with_reducible apply ROps.nil)
    | (with_reducible apply Runs.seq)
    | (with_reducible apply Runs.region tysOK)
    | (with_reducible apply Runs.skip)
    | (with_reducible apply Runs.scope)
    | (with_reducible apply Runs.inScope)
    | (with_reducible apply Runs.label)
    | ((with_reducible apply Runs.condT); (case ho => rfl))
    | ((with_reducible apply Runs.condF); (case ho => rfl))
    | ((with_reducible apply ROps.store); (case hop => rfl); (case hp => rfl); (case hR => rfl); (case hc => rfl); (case hl => first | (dsimp only [setR_one, setR, Nat.beq, cond]; done) | (dsimp only [setR_one, setR, Nat.beq, cond]; rfl) | rfl); (case hl' => first | (dsimp only [List.take, List.drop, List.append, List.nil_append, List.cons_append, List.map, List.length, Nat.add]; rfl) | rfl); (case hw => rfl); (all_goals try rfl))
    | ((with_reducible apply ROps.cmp); (case hop => exact cmpX); (case hw => rfl); (case hdst => rfl); (case hd => rfl); (all_goals (intro h; first | (replace H := ite_pos_ h H) | (replace H := ite_neg_ h H) | (replace H := dec_pos h H) | (replace H := dec_neg h H) | (replace H := dec_t h H) | (replace H := dec_f h H) | (replace H := beq_pos h H) | (replace H := beq_neg h H) | (replace H := beq_tt h H) | (replace H := beq_ff h H) | (replace H := ite_pos_ (Decidable.not_not.1 h) H) | (replace H := beq_pos (Decidable.not_not.1 h) H) | (replace H := beq_tt (Decidable.not_not.1 h) H) | ((try simp only [rdOf] at h); (try simp only [rdOf] at H); (rw [decide_eq_true h] at H)) | ((try simp only [rdOf] at h); (try simp only [rdOf] at H); (rw [decide_eq_false h] at H)) | ((try simp only [rdOf] at h); (try simp only [rdOf] at H); (rw [beq_t h] at H)) | ((try simp only [rdOf] at h); (try simp only [rdOf] at H); (rw [beq_f h] at H)) | ((try simp only [rdOf] at h); (try simp only [rdOf] at H); (rw [bne_t h] at H)) | ((try simp only [rdOf] at h); (try simp only [rdOf] at H); (rw [bne_f h] at H)) | ((try simp only [rdOf] at h); (try simp only [rdOf] at H); (rw [beq_t (Decidable.not_not.1 h)] at H)) | ((try simp only [rdOf] at h); (try simp only [rdOf] at H); (rw [bne_f (Decidable.not_not.1 h)] at H)) | ((try simp only [rdOf] at h); (try simp only [rdOf] at H); (rw [if_pos h] at H)) | ((try simp only [rdOf] at h); (try simp only [rdOf] at H); (rw [if_neg h] at H)) | contradiction | skip)))
    | ((with_reducible apply ROps.val); (case hop => exact valX); (case hw => rfl); (case hdst => rfl); (case hd => rfl))
    | ((first | (with_reducible apply ROps.eqS; case hop => rfl) | (with_reducible apply ROps.neS; case hop => rfl)); (case ht => rfl); (case hx => rfl); (case hy => rfl); (case hl => rfl); (case hr => rfl); (case hw => rfl); (case hdst => rfl); (case hd => rfl); (all_goals (intro h; first | (replace H := ite_posF H h) | (replace H := ite_negF H h) | (dsimp only [eqP, eqA] at h) | skip)))
    | ((with_reducible apply ROps.alloc); (case hop => rfl); (case hw => rfl); (all_goals try rfl))
    | ((with_reducible apply ROps.off); (case hw => rfl); (case hdst => rfl); (case hd => rfl))
    | ((with_reducible have hB : (boarderref12_Get.f _ _ _).bind _ = some _ := H); clear hB; (replace H := bind_some' H); (obtain ⟨⟨t_0, t_1, t_2, t_3, t_4⟩, H1, H⟩ := H); (try dsimp only at H); (with_reducible apply ROps.call); (case hop => rfl); (case hc => exact boarderref12_Get.ok H1); (case ha => exact argsX); (case hw => rfl); (case hdst => rfl); (case hd => rfl))
    | ((with_reducible apply Runs.retP tysOK); (case hrs => rfl); (case h => rfl); (case hr => (cases H; exact refX)); (case hx => rfl))
    | exact leRX)
end Go.Proofs.Ytopbcamlagdieaa.PStats
set_option linter.unusedVariables false
set_option linter.unusedSimpArgs false
namespace Go.Proofs.Ytopbcamlagdieaa.PStats
open Go.RowKit Go.Proofs.YtopbcamlagdieaaW.PrintWords Go.Proofs.YtopbcamlagdieaaW.PrintLast Go.Proofs.YtopbcamlagdieaaW.PrintMore Go.Proofs.Ytopbcamlagdieaa.Abs
/-! ### boarderref13_Keeper: function 56 -/
mutual
def boarderref13_Keeper.l0 : Nat → Int → List (S60) → Int → Option (ByteArray × Bool)
  | 0, _, _, _ => none
  | k + 1, x1, x6, x8 => if x8 < (x6.length : Int) then (boarderref13_Keeper.l1 k x1 x6 x8 0) else (some ((⟨#[]⟩ : ByteArray), false))
def boarderref13_Keeper.l1 : Nat → Int → List (S60) → Int → Int → Option (ByteArray × Bool)
  | 0, _, _, _, _ => none
  | k + 1, x1, x6, x8, x9 => if 0 ≤ x8 then (if x8 < (x6.length : Int) then (if x9 < (((rd_T60 x6 x8).f3).length : Int) then (if 0 ≤ x9 then (if ((rd_T65 ((rd_T60 x6 x8).f3) x9).f1) = x1 then (some ((rd_T65 ((rd_T60 x6 x8).f3) x9).f0, true)) else (boarderref13_Keeper.l1 k x1 x6 x8 (wrap64 (x9 + 1)))) else (none)) else (boarderref13_Keeper.l0 k x1 x6 (wrap64 (x8 + 1)))) else (none)) else (none)
end
def boarderref13_Keeper.f (k : Nat) (a0_0 : Int) (a0_1 : Int) (l0_2 : List (S56)) (a1 : Int) : Option (ByteArray × Bool) := (boarderref13_Check.f k a0_0 a0_1 l0_2).bind fun t516 => (if t516 = 0 then ((boarderref13_Flat.f k a0_0 a0_1 l0_2).bind fun bt517 => (boarderref13_Keeper.l0 k a1 bt517.1 0)) else (some ((⟨#[]⟩ : ByteArray), false)))
noncomputable def boarderref13_Keeper.cx : Cx := ⟨Try.prog, tys, glo, 54, Try.f56, [.tmp 4, .tmp 5], 0⟩
set_option maxHeartbeats 16000000 in
set_option maxRecDepth 100000 in
theorem boarderref13_Keeper.ok {k : Nat} {a0_0 : Int} {a0_1 : Int} {l0_2 : List (S56)} {a1 : Int} {r0 : ByteArray} {r1 : Bool} (H : boarderref13_Keeper.f k a0_0 a0_1 l0_2 a1 = some (r0, r1)) : CallOK Try.prog glo 56 [.agg [.imm (.int .i64 a0_0), .imm (.int .i64 a0_1), vS56 l0_2], .imm (.int .i64 a1)] (.tup [.imm (.string r0), .imm (.bool r1)]) := by
  unfold boarderref13_Keeper.f at H
  refine CallOK.of (c := boarderref13_Keeper.cx) Try.func56 (show (boarderref13_Keeper.cx).fn.body = some _ from rfl) rfl rfl (Nat.le_of_ble_eq_true rfl) rfl ?_
  repeat' (first
    | ((with_reducible replace H := some_ite H); obtain ⟨_, H⟩ := H)
    | (with_reducible replace H := true_ite H)
    | (with_reducible replace H := false_ite H)
    | ((with_reducible have hb := bool_ite H); clear H; rcases hb with ⟨e_, H⟩ | ⟨e_, H⟩ <;> subst e_)
    | ((with_reducible apply ROps.pure); (case hop => rfl); (case hw => rfl); (case hdst => rfl); (case hd => rfl))
    | (with_reducible apply ROps.nil)
    | (with_reducible apply Runs.seq)
    | (with_reducible apply Runs.region tysOK)
    | (with_reducible apply Runs.block)
    | (with_reducible apply Runs.skip)
    | (with_reducible apply Runs.inBlock)
    | (with_reducible apply Runs.scope)
    | (with_reducible apply Runs.inScope)
    | (with_reducible apply Runs.label)
    | ((with_reducible apply Runs.condT); (case ho => rfl))
    | ((with_reducible apply Runs.condF); (case ho => rfl))
    | ((with_reducible apply Runs.exit); (case he => rfl))
    | ((with_reducible apply ROps.cmp); (case hop => exact cmpX); (case hw => rfl); (case hdst => rfl); (case hd => rfl); (all_goals (intro h; first | (replace H := ite_pos_ h H) | (replace H := ite_neg_ h H) | (replace H := dec_pos h H) | (replace H := dec_neg h H) | (replace H := dec_t h H) | (replace H := dec_f h H) | (replace H := beq_pos h H) | (replace H := beq_neg h H) | (replace H := beq_tt h H) | (replace H := beq_ff h H) | (replace H := ite_pos_ (Decidable.not_not.1 h) H) | (replace H := beq_pos (Decidable.not_not.1 h) H) | (replace H := beq_tt (Decidable.not_not.1 h) H) | ((try simp only [rd_T60, rd_T65, rdOf] at h); (try simp only [rd_T60, rd_T65, rdOf] at H); (rw [decide_eq_true h] at H)) | ((try simp only [rd_T60, rd_T65, rdOf] at h); (try simp only [rd_T60, rd_T65, rdOf] at H); (rw [decide_eq_false h] at H)) | ((try simp only [rd_T60, rd_T65, rdOf] at h); (try simp only [rd_T60, rd_T65, rdOf] at H); (rw [beq_t h] at H)) | ((try simp only [rd_T60, rd_T65, rdOf] at h); (try simp only [rd_T60, rd_T65, rdOf] at H); (rw [beq_f h] at H)) | ((try simp only [rd_T60, rd_T65, rdOf] at h); (try simp only [rd_T60, rd_T65, rdOf] at H); (rw [bne_t h] at H)) | ((try simp only [rd_T60, rd_T65, rdOf] at h); (try simp only [rd_T60, rd_T65, rdOf] at H); (rw [bne_f h] at H)) | ((try simp only [rd_T60, rd_T65, rdOf] at h); (try simp only [rd_T60, rd_T65, rdOf] at H); (rw [beq_t (Decidable.not_not.1 h)] at H)) | ((try simp only [rd_T60, rd_T65, rdOf] at h); (try simp only [rd_T60, rd_T65, rdOf] at H); (rw [bne_f (Decidable.not_not.1 h)] at H)) | ((try simp only [rd_T60, rd_T65, rdOf] at h); (try simp only [rd_T60, rd_T65, rdOf] at H); (rw [if_pos h] at H)) | ((try simp only [rd_T60, rd_T65, rdOf] at h); (try simp only [rd_T60, rd_T65, rdOf] at H); (rw [if_neg h] at H)) | contradiction | skip)))
    | ((with_reducible apply ROps.val); (case hop => exact valX); (case hw => rfl); (case hdst => rfl); (case hd => rfl))
    | ((first | (with_reducible apply ROps.eqS; case hop => rfl) | (with_reducible apply ROps.neS; case hop => rfl)); (case ht => rfl); (case hx => rfl); (case hy => rfl); (case hl => rfl); (case hr => rfl); (case hw => rfl); (case hdst => rfl); (case hd => rfl); (all_goals (intro h; first | (replace H := ite_posF H h) | (replace H := ite_negF H h) | (dsimp only [eqP, eqA] at h) | skip)))
    | ((with_reducible apply ROps.idx); (case hop => rfl); (case hx => rfl); (case hi => rfl); (case he => rfl); (case hw => rfl); (case hdst => rfl); (case hd => rfl); (case h0 => first | assumption | omega); (case h1 => first | assumption | omega))
    | ((with_reducible apply ROps.box); (case hop => rfl); (case hx => rfl); (case hrf => rfl); (case hw => rfl); (all_goals try rfl))
    | ((with_reducible have hB : (boarderref13_Check.f _ _ _ _).bind _ = some _ := H); clear hB; (replace H := bind_some' H); (obtain ⟨t_, H1, H⟩ := H); (try dsimp only at H); (with_reducible apply ROps.call); (case hop => rfl); (case hc => exact boarderref13_Check.ok H1); (case ha => exact argsX); (case hw => rfl); (case hdst => rfl); (case hd => rfl))
    | ((with_reducible have hB : (boarderref13_Flat.f _ _ _ _).bind _ = some _ := H); clear hB; (replace H := bind_some' H); (obtain ⟨⟨t_0, t_1⟩, H1, H⟩ := H); (try dsimp only at H); (with_reducible apply ROps.call); (case hop => rfl); (case hc => exact boarderref13_Flat.ok H1); (case ha => exact argsX); (case hw => rfl); (case hdst => rfl); (case hd => rfl))
    | ((with_reducible apply Runs.loopK1 ((fun i0 i1 => fun kk (v0_8 : Int) => boarderref13_Keeper.l0 kk i0 i1 v0_8) _ _) [1, 6] [] (fun b v0_8 => [(8, .imm (.int .i64 v0_8))]) (fun v0_8 => []) _ _ [] H); (case h0 => intros; rfl); (any_goals (clear H; intro k0 hk0 ih0 v0_8 H; replace H : boarderref13_Keeper.l0 (k0 + 1) _ _ v0_8 = some _ := H; rw [boarderref13_Keeper.l0] at H)))
    | (with_reducible apply ih0 _ _ [] _ _ (by omega) H)
    | ((with_reducible apply Runs.loopK1 ((fun i0 i1 i2 => fun kk (v1_9 : Int) => boarderref13_Keeper.l1 kk i0 i1 i2 v1_9) _ _ _) [1, 6, 8] [] (fun b v1_9 => [(9, .imm (.int .i64 v1_9))]) (fun v1_9 => []) _ _ [] H); (case h0 => intros; rfl); (any_goals (clear H; intro k1 hk1 ih1 v1_9 H; replace H : boarderref13_Keeper.l1 (k1 + 1) _ _ _ v1_9 = some _ := H; rw [boarderref13_Keeper.l1] at H)))
    | (with_reducible apply ih1 _ _ [] _ _ (by omega) H)
    | ((with_reducible apply Runs.retP tysOK); (case hrs => rfl); (case h => rfl); (case hr => (cases H; exact refX)); (case hx => rfl))
    | exact leRX)
end Go.Proofs.Ytopbcamlagdieaa.PStats
set_option linter.unusedVariables false
set_option linter.unusedSimpArgs false
namespace Go.Proofs.Ytopbcamlagdieaa.PStats
open Go.RowKit Go.Proofs.YtopbcamlagdieaaW.PrintWords Go.Proofs.YtopbcamlagdieaaW.PrintLast Go.Proofs.YtopbcamlagdieaaW.PrintMore Go.Proofs.Ytopbcamlagdieaa.Abs
/-! ### boarderref13_InPool: function 57 -/
mutual
def boarderref13_InPool.j0 : Nat → Int → Int → Bool → Int → Int → List (S56) → Option (Bool)
  | 0, _, _, _, _, _, _ => none
  | k + 1, x1, x2, x23, x529000, x529001, x529002 => if x23 = true then (some false) else (if 0 ≤ x1 then (if x1 < (x529002.length : Int) then (boarderref13_InPool.l0 k x2 ((rd_T56 x529002 x1).f0) 0) else (none)) else (none))
def boarderref13_InPool.l0 : Nat → Int → List (S60) → Int → Option (Bool)
  | 0, _, _, _ => none
  | k + 1, x2, x7, x8 => if x8 < (x7.length : Int) then (boarderref13_InPool.l1 k x2 x7 x8 0) else (some false)
def boarderref13_InPool.l1 : Nat → Int → List (S60) → Int → Int → Option (Bool)
  | 0, _, _, _, _ => none
  | k + 1, x2, x7, x8, x9 => if 0 ≤ x8 then (if x8 < (x7.length : Int) then (if x9 < (((rd_T60 x7 x8).f2).length : Int) then (if 0 ≤ x9 then (if x2 ≥ ((rd_T76 ((rd_T60 x7 x8).f2) x9).f0) then (if x2 ≤ ((rd_T76 ((rd_T60 x7 x8).f2) x9).f1) then (some true) else (boarderref13_InPool.l1 k x2 x7 x8 (wrap64 (x9 + 1)))) else (boarderref13_InPool.l1 k x2 x7 x8 (wrap64 (x9 + 1)))) else (none)) else (boarderref13_InPool.l0 k x2 x7 (wrap64 (x8 + 1)))) else (none)) else (none)
end
def boarderref13_InPool.f (k : Nat) (a0_0 : Int) (a0_1 : Int) (l0_2 : List (S56)) (a1 : Int) (a2 : Int) : Option (Bool) := (boarderref13_Check.f k a0_0 a0_1 l0_2).bind fun t529 => (if t529 = 0 then (if a1 < 0 then (boarderref13_InPool.j0 k a1 a2 true a0_0 a0_1 l0_2) else (boarderref13_InPool.j0 k a1 a2 (decide (a1 ≥ (l0_2.length : Int))) a0_0 a0_1 l0_2)) else (boarderref13_InPool.j0 k a1 a2 true a0_0 a0_1 l0_2))
noncomputable def boarderref13_InPool.cx : Cx := ⟨Try.prog, tys, glo, 70, Try.f57, [.tmp 6], 0⟩
set_option maxHeartbeats 16000000 in
set_option maxRecDepth 100000 in
theorem boarderref13_InPool.ok {k : Nat} {a0_0 : Int} {a0_1 : Int} {l0_2 : List (S56)} {a1 : Int} {a2 : Int} {r0 : Bool} (H : boarderref13_InPool.f k a0_0 a0_1 l0_2 a1 a2 = some r0) : CallOK Try.prog glo 57 [.agg [.imm (.int .i64 a0_0), .imm (.int .i64 a0_1), vS56 l0_2], .imm (.int .i64 a1), .imm (.int .i64 a2)] (.imm (.bool r0)) := by
  unfold boarderref13_InPool.f at H
  refine CallOK.of (c := boarderref13_InPool.cx) Try.func57 (show (boarderref13_InPool.cx).fn.body = some _ from rfl) rfl rfl (Nat.le_of_ble_eq_true rfl) rfl ?_
  repeat' (first
    | ((with_reducible have hJ : boarderref13_InPool.j0 k _ _ _ _ _ _ = some _ := H); clear hJ; (rcases k with _ | k); (rw [boarderref13_InPool.j0] at H; cases H); (rw [boarderref13_InPool.j0] at H))
    | ((with_reducible have hJ : boarderref13_InPool.j0 k0 _ _ _ _ _ _ = some _ := H); clear hJ; (rcases k0 with _ | k0); (rw [boarderref13_InPool.j0] at H; cases H); (rw [boarderref13_InPool.j0] at H))
    | ((with_reducible have hJ : boarderref13_InPool.j0 k1 _ _ _ _ _ _ = some _ := H); clear hJ; (rcases k1 with _ | k1); (rw [boarderref13_InPool.j0] at H; cases H); (rw [boarderref13_InPool.j0] at H))
    | ((with_reducible replace H := some_ite H); obtain ⟨_, H⟩ := H)
    | (with_reducible replace H := true_ite H)
    | (with_reducible replace H := false_ite H)
    | ((with_reducible have hb := bool_ite H); clear H; rcases hb with ⟨e_, H⟩ | ⟨e_, H⟩ <;> subst e_)
    | ((with_reducible apply ROps.pure); (case hop => rfl); (case hw => rfl); (case hdst => rfl); (case hd => rfl))
    | (with_reducible apply ROps.nil)
    | (with_reducible apply Runs.seq)
    | (with_reducible apply Runs.region tysOK)
    | (with_reducible apply Runs.block)
    | (with_reducible apply Runs.skip)
    | (with_reducible apply Runs.inBlock)
    | (with_reducible apply Runs.scope)
    | (with_reducible apply Runs.inScope)
    | (with_reducible apply Runs.label)
    | ((with_reducible apply Runs.condT); (case ho => rfl))
    | ((with_reducible apply Runs.condF); (case ho => rfl))
    | ((with_reducible apply Runs.exit); (case he => rfl))
    | ((with_reducible apply ROps.cmp); (case hop => exact cmpX); (case hw => rfl); (case hdst => rfl); (case hd => rfl); (all_goals (intro h; first | (replace H := ite_pos_ h H) | (replace H := ite_neg_ h H) | (replace H := dec_pos h H) | (replace H := dec_neg h H) | (replace H := dec_t h H) | (replace H := dec_f h H) | (replace H := beq_pos h H) | (replace H := beq_neg h H) | (replace H := beq_tt h H) | (replace H := beq_ff h H) | (replace H := ite_pos_ (Decidable.not_not.1 h) H) | (replace H := beq_pos (Decidable.not_not.1 h) H) | (replace H := beq_tt (Decidable.not_not.1 h) H) | ((try simp only [rd_T56, rd_T60, rd_T76, rdOf] at h); (try simp only [rd_T56, rd_T60, rd_T76, rdOf] at H); (rw [decide_eq_true h] at H)) | ((try simp only [rd_T56, rd_T60, rd_T76, rdOf] at h); (try simp only [rd_T56, rd_T60, rd_T76, rdOf] at H); (rw [decide_eq_false h] at H)) | ((try simp only [rd_T56, rd_T60, rd_T76, rdOf] at h); (try simp only [rd_T56, rd_T60, rd_T76, rdOf] at H); (rw [beq_t h] at H)) | ((try simp only [rd_T56, rd_T60, rd_T76, rdOf] at h); (try simp only [rd_T56, rd_T60, rd_T76, rdOf] at H); (rw [beq_f h] at H)) | ((try simp only [rd_T56, rd_T60, rd_T76, rdOf] at h); (try simp only [rd_T56, rd_T60, rd_T76, rdOf] at H); (rw [bne_t h] at H)) | ((try simp only [rd_T56, rd_T60, rd_T76, rdOf] at h); (try simp only [rd_T56, rd_T60, rd_T76, rdOf] at H); (rw [bne_f h] at H)) | ((try simp only [rd_T56, rd_T60, rd_T76, rdOf] at h); (try simp only [rd_T56, rd_T60, rd_T76, rdOf] at H); (rw [beq_t (Decidable.not_not.1 h)] at H)) | ((try simp only [rd_T56, rd_T60, rd_T76, rdOf] at h); (try simp only [rd_T56, rd_T60, rd_T76, rdOf] at H); (rw [bne_f (Decidable.not_not.1 h)] at H)) | ((try simp only [rd_T56, rd_T60, rd_T76, rdOf] at h); (try simp only [rd_T56, rd_T60, rd_T76, rdOf] at H); (rw [if_pos h] at H)) | ((try simp only [rd_T56, rd_T60, rd_T76, rdOf] at h); (try simp only [rd_T56, rd_T60, rd_T76, rdOf] at H); (rw [if_neg h] at H)) | contradiction | skip)))
    | ((with_reducible apply ROps.val); (case hop => exact valX); (case hw => rfl); (case hdst => rfl); (case hd => rfl))
    | ((first | (with_reducible apply ROps.eqS; case hop => rfl) | (with_reducible apply ROps.neS; case hop => rfl)); (case ht => rfl); (case hx => rfl); (case hy => rfl); (case hl => rfl); (case hr => rfl); (case hw => rfl); (case hdst => rfl); (case hd => rfl); (all_goals (intro h; first | (replace H := ite_posF H h) | (replace H := ite_negF H h) | (dsimp only [eqP, eqA] at h) | skip)))
    | ((with_reducible apply ROps.idx); (case hop => rfl); (case hx => rfl); (case hi => rfl); (case he => rfl); (case hw => rfl); (case hdst => rfl); (case hd => rfl); (case h0 => first | assumption | omega); (case h1 => first | assumption | omega))
    | ((with_reducible apply ROps.box); (case hop => rfl); (case hx => rfl); (case hrf => rfl); (case hw => rfl); (all_goals try rfl))
    | ((with_reducible apply ROps.off); (case hw => rfl); (case hdst => rfl); (case hd => rfl))
    | ((with_reducible have hB : (boarderref13_Check.f _ _ _ _).bind _ = some _ := H); clear hB; (replace H := bind_some' H); (obtain ⟨t_, H1, H⟩ := H); (try dsimp only at H); (with_reducible apply ROps.call); (case hop => rfl); (case hc => exact boarderref13_Check.ok H1); (case ha => exact argsX); (case hw => rfl); (case hdst => rfl); (case hd => rfl))
    | ((with_reducible apply Runs.loopK1 ((fun i0 i1 => fun kk (v0_8 : Int) => boarderref13_InPool.l0 kk i0 i1 v0_8) _ _) [2, 7] [] (fun b v0_8 => [(8, .imm (.int .i64 v0_8))]) (fun v0_8 => []) _ _ [] H); (case h0 => intros; rfl); (any_goals (clear H; intro k0 hk0 ih0 v0_8 H; replace H : boarderref13_InPool.l0 (k0 + 1) _ _ v0_8 = some _ := H; rw [boarderref13_InPool.l0] at H)))
    | (with_reducible apply ih0 _ _ [] _ _ (by omega) H)
    | ((with_reducible apply Runs.loopK1 ((fun i0 i1 i2 => fun kk (v1_9 : Int) => boarderref13_InPool.l1 kk i0 i1 i2 v1_9) _ _ _) [2, 7, 8] [] (fun b v1_9 => [(9, .imm (.int .i64 v1_9))]) (fun v1_9 => []) _ _ [] H); (case h0 => intros; rfl); (any_goals (clear H; intro k1 hk1 ih1 v1_9 H; replace H : boarderref13_InPool.l1 (k1 + 1) _ _ _ v1_9 = some _ := H; rw [boarderref13_InPool.l1] at H)))
    | (with_reducible apply ih1 _ _ [] _ _ (by omega) H)
    | ((with_reducible apply Runs.retP tysOK); (case hrs => rfl); (case h => rfl); (case hr => (cases H; exact refX)); (case hx => rfl))
    | exact leRX)
end Go.Proofs.Ytopbcamlagdieaa.PStats
set_option linter.unusedVariables false
set_option linter.unusedSimpArgs false
namespace Go.Proofs.Ytopbcamlagdieaa.PStats
open Go.RowKit Go.Proofs.YtopbcamlagdieaaW.PrintWords Go.Proofs.YtopbcamlagdieaaW.PrintLast Go.Proofs.YtopbcamlagdieaaW.PrintMore Go.Proofs.Ytopbcamlagdieaa.Abs
/-! ### boarderref15_May: function 34 -/
mutual
def boarderref15_May.j0 : Nat → Int → ByteArray → Int → Bool → Int → Int → List (S56) → Option (Bool)
  | 0, _, _, _, _, _, _, _ => none
  | k + 1, x2, x3, x4, x39, x537000, x537001, x537002 => if x39 = true then (some false) else ((boarderref13_KeptFor.f k x537000 x537001 x537002 x2 x3).bind fun bt540 => (if bt540.2 = true then (boarderref15_May.j1 k x2 x3 x4 (x4 == bt540.1) x537000 x537001 x537002) else (boarderref15_May.j1 k x2 x3 x4 false x537000 x537001 x537002)))
def boarderref15_May.j1 : Nat → Int → ByteArray → Int → Bool → Int → Int → List (S56) → Option (Bool)
  | 0, _, _, _, _, _, _, _ => none
  | k + 1, x2, x3, x4, x52, x537000, x537001, x537002 => if x52 = true then (some true) else ((boarderref13_Keeper.f k x537000 x537001 x537002 x4).bind fun bt542 => ((boarderref13_InPool.f k x537000 x537001 x537002 x2 x4).bind fun t544 => (if t544 = true then (if bt542.2 = true then (some (bt542.1.toList == x3.toList)) else (some true)) else (some false))))
end
def boarderref15_May.f (k : Nat) (a0_0 : Int) (a0_1 : Int) (l0_2 : List (S56)) (l1 : List (S68)) (a2 : Int) (a3 : ByteArray) (a4 : Int) (a5 : Int) : Option (Bool) := (boarderref15_Fair.f k a0_0 a0_1 l0_2 l1 a2 a3).bind fun t537 => (if t537 = true then ((boarderref15_other.f k a0_0 a0_1 l0_2 l1 a2 a3 a4 a5).bind fun t538 => (if t538 = true then (boarderref15_May.j0 k a2 a3 a4 true a0_0 a0_1 l0_2) else ((boarderref12_Free.f k l1 a4 a3 a5).bind fun t539 => (boarderref15_May.j0 k a2 a3 a4 (!t539) a0_0 a0_1 l0_2)))) else (boarderref15_May.j0 k a2 a3 a4 true a0_0 a0_1 l0_2))
noncomputable def boarderref15_May.cx : Cx := ⟨Try.prog, tys, glo, 72, Try.f34, [.tmp 12], 0⟩
set_option maxHeartbeats 16000000 in
set_option maxRecDepth 100000 in
theorem boarderref15_May.ok {k : Nat} {a0_0 : Int} {a0_1 : Int} {l0_2 : List (S56)} {l1 : List (S68)} {a2 : Int} {a3 : ByteArray} {a4 : Int} {a5 : Int} {r0 : Bool} (H : boarderref15_May.f k a0_0 a0_1 l0_2 l1 a2 a3 a4 a5 = some r0) : CallOK Try.prog glo 34 [.agg [.imm (.int .i64 a0_0), .imm (.int .i64 a0_1), vS56 l0_2], vS68 l1, .imm (.int .i64 a2), .imm (.string a3), .imm (.int .i64 a4), .imm (.int .i64 a5)] (.imm (.bool r0)) := by
  unfold boarderref15_May.f at H
  refine CallOK.of (c := boarderref15_May.cx) Try.func34 (show (boarderref15_May.cx).fn.body = some _ from rfl) rfl rfl (Nat.le_of_ble_eq_true rfl) rfl ?_
  repeat' (first
    | ((with_reducible have hJ : boarderref15_May.j0 k _ _ _ _ _ _ _ = some _ := H); clear hJ; (rcases k with _ | k); (rw [boarderref15_May.j0] at H; cases H); (rw [boarderref15_May.j0] at H))
    | ((with_reducible have hJ : boarderref15_May.j1 k _ _ _ _ _ _ _ = some _ := H); clear hJ; (rcases k with _ | k); (rw [boarderref15_May.j1] at H; cases H); (rw [boarderref15_May.j1] at H))
    | ((with_reducible replace H := some_ite H); obtain ⟨_, H⟩ := H)
    | (with_reducible replace H := some_bind_ H)
    | (with_reducible replace H := true_ite H)
    | (with_reducible replace H := false_ite H)
    | ((with_reducible have hb := bool_ite H); clear H; rcases hb with ⟨e_, H⟩ | ⟨e_, H⟩ <;> subst e_)
    | ((with_reducible have hb := bool_iteN H); clear H; rcases hb with ⟨e_, H⟩ | ⟨e_, H⟩ <;> subst e_)
    | ((with_reducible apply ROps.pure); (case hop => rfl); (case hw => rfl); (case hdst => rfl); (case hd => rfl))
    | (with_reducible apply ROps.nil)
    | (with_reducible apply Runs.seq)
    | (with_reducible apply Runs.region tysOK)
    | (with_reducible apply Runs.skip)
    | (with_reducible apply Runs.scope)
    | (with_reducible apply Runs.inScope)
    | (with_reducible apply Runs.label)
    | ((with_reducible apply Runs.condT); (case ho => rfl))
    | ((with_reducible apply Runs.condF); (case ho => rfl))
    | ((with_reducible apply ROps.cmp); (case hop => exact cmpX); (case hw => rfl); (case hdst => rfl); (case hd => rfl); (all_goals (intro h; first | (replace H := ite_pos_ h H) | (replace H := ite_neg_ h H) | (replace H := dec_pos h H) | (replace H := dec_neg h H) | (replace H := dec_t h H) | (replace H := dec_f h H) | (replace H := beq_pos h H) | (replace H := beq_neg h H) | (replace H := beq_tt h H) | (replace H := beq_ff h H) | (replace H := ite_pos_ (Decidable.not_not.1 h) H) | (replace H := beq_pos (Decidable.not_not.1 h) H) | (replace H := beq_tt (Decidable.not_not.1 h) H) | ((try simp only [rdOf] at h); (try simp only [rdOf] at H); (rw [decide_eq_true h] at H)) | ((try simp only [rdOf] at h); (try simp only [rdOf] at H); (rw [decide_eq_false h] at H)) | ((try simp only [rdOf] at h); (try simp only [rdOf] at H); (rw [beq_t h] at H)) | ((try simp only [rdOf] at h); (try simp only [rdOf] at H); (rw [beq_f h] at H)) | ((try simp only [rdOf] at h); (try simp only [rdOf] at H); (rw [beq_t (Decidable.not_not.1 h)] at H)) | ((try simp only [rdOf] at h); (try simp only [rdOf] at H); (rw [if_pos h] at H)) | ((try simp only [rdOf] at h); (try simp only [rdOf] at H); (rw [if_neg h] at H)) | contradiction | skip)))
    | ((with_reducible apply ROps.val); (case hop => exact valX); (case hw => rfl); (case hdst => rfl); (case hd => rfl))
    | ((first | (with_reducible apply ROps.eqS; case hop => rfl) | (with_reducible apply ROps.neS; case hop => rfl)); (case ht => rfl); (case hx => rfl); (case hy => rfl); (case hl => rfl); (case hr => rfl); (case hw => rfl); (case hdst => rfl); (case hd => rfl); (all_goals (intro h; first | (replace H := ite_posF H h) | (replace H := ite_negF H h) | (dsimp only [eqP, eqA] at h) | skip)))
    | ((with_reducible apply ROps.box); (case hop => rfl); (case hx => rfl); (case hrf => rfl); (case hw => rfl); (all_goals try rfl))
    | ((with_reducible apply ROps.off); (case hw => rfl); (case hdst => rfl); (case hd => rfl))
    | ((with_reducible have hB : (boarderref15_Fair.f _ _ _ _ _ _ _).bind _ = some _ := H); clear hB; (replace H := bind_some' H); (obtain ⟨t_, H1, H⟩ := H); (try dsimp only at H); (with_reducible apply ROps.call); (case hop => rfl); (case hc => exact boarderref15_Fair.ok H1); (case ha => exact argsX); (case hw => rfl); (case hdst => rfl); (case hd => rfl))
    | ((with_reducible have hB : (boarderref13_KeptFor.f _ _ _ _ _ _).bind _ = some _ := H); clear hB; (replace H := bind_some' H); (obtain ⟨⟨t_0, t_1⟩, H1, H⟩ := H); (try dsimp only at H); (with_reducible apply ROps.call); (case hop => rfl); (case hc => exact boarderref13_KeptFor.ok H1); (case ha => exact argsX); (case hw => rfl); (case hdst => rfl); (case hd => rfl))
    | ((with_reducible have hB : (boarderref15_other.f _ _ _ _ _ _ _ _ _).bind _ = some _ := H); clear hB; (replace H := bind_some' H); (obtain ⟨t_, H1, H⟩ := H); (try dsimp only at H); (with_reducible apply ROps.call); (case hop => rfl); (case hc => exact boarderref15_other.ok H1); (case ha => exact argsX); (case hw => rfl); (case hdst => rfl); (case hd => rfl))
    | ((with_reducible have hB : (boarderref12_Free.f _ _ _ _ _).bind _ = some _ := H); clear hB; (replace H := bind_some' H); (obtain ⟨t_, H1, H⟩ := H); (try dsimp only at H); (with_reducible apply ROps.call); (case hop => rfl); (case hc => exact boarderref12_Free.ok H1); (case ha => exact argsX); (case hw => rfl); (case hdst => rfl); (case hd => rfl))
    | ((with_reducible have hB : (boarderref13_Keeper.f _ _ _ _ _).bind _ = some _ := H); clear hB; (replace H := bind_some' H); (obtain ⟨⟨t_0, t_1⟩, H1, H⟩ := H); (try dsimp only at H); (with_reducible apply ROps.call); (case hop => rfl); (case hc => exact boarderref13_Keeper.ok H1); (case ha => exact argsX); (case hw => rfl); (case hdst => rfl); (case hd => rfl))
    | ((with_reducible have hB : (boarderref13_InPool.f _ _ _ _ _ _).bind _ = some _ := H); clear hB; (replace H := bind_some' H); (obtain ⟨t_, H1, H⟩ := H); (try dsimp only at H); (with_reducible apply ROps.call); (case hop => rfl); (case hc => exact boarderref13_InPool.ok H1); (case ha => exact argsX); (case hw => rfl); (case hdst => rfl); (case hd => rfl))
    | ((with_reducible apply Runs.retP tysOK); (case hrs => rfl); (case h => rfl); (case hr => (cases H; exact refX)); (case hx => rfl))
    | exact leRX)
end Go.Proofs.Ytopbcamlagdieaa.PStats
set_option linter.unusedVariables false
set_option linter.unusedSimpArgs false
namespace Go.Proofs.Ytopbcamlagdieaa.PStats
open Go.RowKit Go.Proofs.YtopbcamlagdieaaW.PrintWords Go.Proofs.YtopbcamlagdieaaW.PrintLast Go.Proofs.YtopbcamlagdieaaW.PrintMore Go.Proofs.Ytopbcamlagdieaa.Abs
/-! ### boarderref15_Choose: function 16 -/
mutual
def boarderref15_Choose.j0 : Nat → List (S68) → ByteArray → Int → Int → List (S56) → Int → Int → Int → Option (Int × Bool)
  | 0, _, _, _, _, _, _, _, _ => none
  | k + 1, p1, p3, p0_0, p0_1, p0_2, p2, p5, p4 => (boarderref15_Choose.l1 k p1 p3 p0_0 p0_1 p0_2 p2 p5 p4 0)
def boarderref15_Choose.l0 : Nat → List (S68) → ByteArray → Int → Int → Int → List (S56) → Int → Int → Bool → Int → Option (Int × Bool)
  | 0, _, _, _, _, _, _, _, _, _, _ => none
  | k + 1, p1, p3, p5, p0_0, p0_1, p0_2, p2, p4, v2, v3 => (if v3 < (p1.length : Int) then (if 0 ≤ v3 then (if (rd_T68 p1 v3).f3.toList = p3.toList then ((boarderref12_Holds.f ((rd_T68 p1 v3).f0) ((rd_T68 p1 v3).f1) ((rd_T68 p1 v3).f2) ((rd_T68 p1 v3).f3) p5).bind fun t14 => (if t14 = true then ((boarderref15_In.f k p0_0 p0_1 p0_2 p2 ((rd_T68 p1 v3).f0)).bind fun t15 => (if t15 = true then ((boarderref15_May.f k p0_0 p0_1 p0_2 p1 p2 p3 ((rd_T68 p1 v3).f0) p5).bind fun t16 => (if t16 = true then (some ((rd_T68 p1 v3).f0, true)) else (boarderref15_Choose.l0 k p1 p3 p5 p0_0 p0_1 p0_2 p2 p4 true (wrap64 (v3 + 1))))) else (boarderref15_Choose.l0 k p1 p3 p5 p0_0 p0_1 p0_2 p2 p4 v2 (wrap64 (v3 + 1))))) else (boarderref15_Choose.l0 k p1 p3 p5 p0_0 p0_1 p0_2 p2 p4 v2 (wrap64 (v3 + 1))))) else (boarderref15_Choose.l0 k p1 p3 p5 p0_0 p0_1 p0_2 p2 p4 v2 (wrap64 (v3 + 1)))) else none) else (if v2 = true then (some (0, false)) else ((boarderref13_KeptFor.f k p0_0 p0_1 p0_2 p2 p3).bind fun b4 => (if b4.2 = true then ((boarderref15_May.f k p0_0 p0_1 p0_2 p1 p2 p3 b4.1 p5).bind fun t5 => (if t5 = true then (some (b4.1, true)) else (boarderref15_Choose.j0 k p1 p3 p0_0 p0_1 p0_2 p2 p5 p4))) else (boarderref15_Choose.j0 k p1 p3 p0_0 p0_1 p0_2 p2 p5 p4)))))
def boarderref15_Choose.l1 : Nat → List (S68) → ByteArray → Int → Int → List (S56) → Int → Int → Int → Int → Option (Int × Bool)
  | 0, _, _, _, _, _, _, _, _, _ => none
  | k + 1, p1, p3, p0_0, p0_1, p0_2, p2, p5, p4, v6 => (if v6 < (p1.length : Int) then (if 0 ≤ v6 then (if (rd_T68 p1 v6).f3.toList = p3.toList then ((boarderref15_In.f k p0_0 p0_1 p0_2 p2 ((rd_T68 p1 v6).f0)).bind fun t12 => (if t12 = true then ((boarderref15_May.f k p0_0 p0_1 p0_2 p1 p2 p3 ((rd_T68 p1 v6).f0) p5).bind fun t13 => (if t13 = true then (some ((rd_T68 p1 v6).f0, true)) else (boarderref15_Choose.l1 k p1 p3 p0_0 p0_1 p0_2 p2 p5 p4 (wrap64 (v6 + 1))))) else (boarderref15_Choose.l1 k p1 p3 p0_0 p0_1 p0_2 p2 p5 p4 (wrap64 (v6 + 1))))) else (boarderref15_Choose.l1 k p1 p3 p0_0 p0_1 p0_2 p2 p5 p4 (wrap64 (v6 + 1)))) else none) else ((boarderref15_May.f k p0_0 p0_1 p0_2 p1 p2 p3 p4 p5).bind fun t7 => (if t7 = true then (some (p4, true)) else (if 0 ≤ p2 then (if p2 < (p0_2.length : Int) then (boarderref15_Choose.l2 k p0_2 p2 p0_0 p0_1 p1 p3 p5 0) else none) else none))))
def boarderref15_Choose.l2 : Nat → List (S56) → Int → Int → Int → List (S68) → ByteArray → Int → Int → Option (Int × Bool)
  | 0, _, _, _, _, _, _, _, _ => none
  | k + 1, p0_2, p2, p0_0, p0_1, p1, p3, p5, v8 => (if v8 < ((rd_T56 p0_2 p2).f0.length : Int) then (boarderref15_Choose.l3 k v8 p0_2 p2 p0_0 p0_1 p1 p3 p5 0) else (some (0, false)))
def boarderref15_Choose.l3 : Nat → Int → List (S56) → Int → Int → Int → List (S68) → ByteArray → Int → Int → Option (Int × Bool)
  | 0, _, _, _, _, _, _, _, _, _ => none
  | k + 1, v8, p0_2, p2, p0_0, p0_1, p1, p3, p5, v9 => (if 0 ≤ v8 then (if v8 < ((rd_T56 p0_2 p2).f0.length : Int) then (if v9 < ((rd_T60 (rd_T56 p0_2 p2).f0 v8).f2.length : Int) then (if 0 ≤ v9 then (boarderref15_Choose.l4 k v8 p0_2 p2 v9 p0_0 p0_1 p1 p3 p5 ((rd_T76 (rd_T60 (rd_T56 p0_2 p2).f0 v8).f2 v9).f0)) else none) else (boarderref15_Choose.l2 k p0_2 p2 p0_0 p0_1 p1 p3 p5 (wrap64 (v8 + 1)))) else none) else none)
def boarderref15_Choose.l4 : Nat → Int → List (S56) → Int → Int → Int → Int → List (S68) → ByteArray → Int → Int → Option (Int × Bool)
  | 0, _, _, _, _, _, _, _, _, _, _ => none
  | k + 1, v8, p0_2, p2, v9, p0_0, p0_1, p1, p3, p5, v10 => (if 0 ≤ v8 then (if v8 < ((rd_T56 p0_2 p2).f0.length : Int) then (if 0 ≤ v9 then (if v9 < ((rd_T60 (rd_T56 p0_2 p2).f0 v8).f2.length : Int) then (if v10 ≤ (rd_T76 (rd_T60 (rd_T56 p0_2 p2).f0 v8).f2 v9).f1 then ((boarderref15_May.f k p0_0 p0_1 p0_2 p1 p2 p3 v10 p5).bind fun t11 => (if t11 = true then (some (v10, true)) else (boarderref15_Choose.l4 k v8 p0_2 p2 v9 p0_0 p0_1 p1 p3 p5 (wrap64 (v10 + 1))))) else (boarderref15_Choose.l3 k v8 p0_2 p2 p0_0 p0_1 p1 p3 p5 (wrap64 (v9 + 1)))) else none) else none) else none) else none)
end
def boarderref15_Choose.f (k : Nat) (p0_0 : Int) (p0_1 : Int) (p0_2 : List (S56)) (p1 : List (S68)) (p2 : Int) (p3 : ByteArray) (p4 : Int) (p5 : Int) : Option (Int × Bool) := ((boarderref15_Fair.f k p0_0 p0_1 p0_2 p1 p2 p3).bind fun t1 => (if (!t1) = true then (some (0, false)) else (boarderref15_Choose.l0 k p1 p3 p5 p0_0 p0_1 p0_2 p2 p4 false 0)))
noncomputable def boarderref15_Choose.cx : Cx := ⟨Try.prog, tys, glo, 196, Try.f16, [.tmp 12, .tmp 13], 0⟩
def boarderref15_Choose.Sj0 (r0 : Int) (r1 : Bool) (k : Nat) : Prop := ∀ (p1 : List (S68)) (p3 : ByteArray) (p0_0 : Int) (p0_1 : Int) (p0_2 : List (S56)) (p2 : Int) (p5 : Int) (p4 : Int), boarderref15_Choose.j0 k p1 p3 p0_0 p0_1 p0_2 p2 p5 p4 = some (r0, r1) → Runs boarderref15_Choose.cx (Pur (.tup [.imm (.int .i64 r0), .imm (.bool r1)])) [.code (cP (bodyOf Try.f16) [1, 1, 1, 1, 1, 1, 1])] (overF none_ [(1, vS68 p1), (2, .imm (.int .i64 p2)), (3, .imm (.string p3)), (4, .imm (.int .i64 p4)), (5, .imm (.int .i64 p5)), (6, .ptr [.imm (.int .i64 p0_0), .imm (.int .i64 p0_1), vS56 p0_2])]) []
def boarderref15_Choose.Sl0 (r0 : Int) (r1 : Bool) (k : Nat) : Prop := ∀ (p1 : List (S68)) (p3 : ByteArray) (p5 : Int) (p0_0 : Int) (p0_1 : Int) (p0_2 : List (S56)) (p2 : Int) (p4 : Int) (v2 : Bool) (v3 : Int), boarderref15_Choose.l0 k p1 p3 p5 p0_0 p0_1 p0_2 p2 p4 v2 v3 = some (r0, r1) → Runs boarderref15_Choose.cx (Pur (.tup [.imm (.int .i64 r0), .imm (.bool r1)])) [.code (cP (bodyOf Try.f16) [1, 1, 1, 0, 1, 0, 0]), .inLoop (cP (bodyOf Try.f16) [1, 1, 1, 0, 1, 0, 0]), .inBlock 0, .code (cP (bodyOf Try.f16) [1, 1, 1, 1])] (overF none_ [(1, vS68 p1), (14, .imm (.bool v2)), (15, .imm (.int .i64 v3)), (2, .imm (.int .i64 p2)), (3, .imm (.string p3)), (4, .imm (.int .i64 p4)), (5, .imm (.int .i64 p5)), (6, .ptr [.imm (.int .i64 p0_0), .imm (.int .i64 p0_1), vS56 p0_2])]) []
def boarderref15_Choose.Sl1 (r0 : Int) (r1 : Bool) (k : Nat) : Prop := ∀ (p1 : List (S68)) (p3 : ByteArray) (p0_0 : Int) (p0_1 : Int) (p0_2 : List (S56)) (p2 : Int) (p5 : Int) (p4 : Int) (v6 : Int), boarderref15_Choose.l1 k p1 p3 p0_0 p0_1 p0_2 p2 p5 p4 v6 = some (r0, r1) → Runs boarderref15_Choose.cx (Pur (.tup [.imm (.int .i64 r0), .imm (.bool r1)])) [.code (cP (bodyOf Try.f16) [1, 1, 1, 1, 1, 1, 1, 0, 1, 0, 0]), .inLoop (cP (bodyOf Try.f16) [1, 1, 1, 1, 1, 1, 1, 0, 1, 0, 0]), .inBlock 2, .code (cP (bodyOf Try.f16) [1, 1, 1, 1, 1, 1, 1, 1])] (overF none_ [(1, vS68 p1), (18, .imm (.int .i64 v6)), (2, .imm (.int .i64 p2)), (3, .imm (.string p3)), (4, .imm (.int .i64 p4)), (5, .imm (.int .i64 p5)), (6, .ptr [.imm (.int .i64 p0_0), .imm (.int .i64 p0_1), vS56 p0_2])]) []
def boarderref15_Choose.Sl2 (r0 : Int) (r1 : Bool) (k : Nat) : Prop := ∀ (p0_2 : List (S56)) (p2 : Int) (p0_0 : Int) (p0_1 : Int) (p1 : List (S68)) (p3 : ByteArray) (p5 : Int) (v8 : Int), boarderref15_Choose.l2 k p0_2 p2 p0_0 p0_1 p1 p3 p5 v8 = some (r0, r1) → Runs boarderref15_Choose.cx (Pur (.tup [.imm (.int .i64 r0), .imm (.bool r1)])) [.code (cP (bodyOf Try.f16) [1, 1, 1, 1, 1, 1, 1, 1, 1, 1, 0, 1, 0, 0]), .inLoop (cP (bodyOf Try.f16) [1, 1, 1, 1, 1, 1, 1, 1, 1, 1, 0, 1, 0, 0]), .inBlock 4, .code (cP (bodyOf Try.f16) [1, 1, 1, 1, 1, 1, 1, 1, 1, 1, 1])] (overF none_ [(1, vS68 p1), (19, vS60 ((rd_T56 p0_2 p2).f0)), (2, .imm (.int .i64 p2)), (20, .imm (.int .i64 v8)), (3, .imm (.string p3)), (5, .imm (.int .i64 p5)), (6, .ptr [.imm (.int .i64 p0_0), .imm (.int .i64 p0_1), vS56 p0_2])]) []
def boarderref15_Choose.Sl3 (r0 : Int) (r1 : Bool) (k : Nat) : Prop := ∀ (v8 : Int) (p0_2 : List (S56)) (p2 : Int) (p0_0 : Int) (p0_1 : Int) (p1 : List (S68)) (p3 : ByteArray) (p5 : Int) (v9 : Int), boarderref15_Choose.l3 k v8 p0_2 p2 p0_0 p0_1 p1 p3 p5 v9 = some (r0, r1) → Runs boarderref15_Choose.cx (Pur (.tup [.imm (.int .i64 r0), .imm (.bool r1)])) [.code (cP (bodyOf Try.f16) [1, 1, 1, 1, 1, 1, 1, 1, 1, 1, 0, 1, 0, 0, 1, 0, 0, 1, 0, 0]), .inLoop (cP (bodyOf Try.f16) [1, 1, 1, 1, 1, 1, 1, 1, 1, 1, 0, 1, 0, 0, 1, 0, 0, 1, 0, 0]), .inBlock 6, .inBlock 5, .code (cP (bodyOf Try.f16) [1, 1, 1, 1, 1, 1, 1, 1, 1, 1, 0, 1, 0, 0, 1, 1]), .inLoop (cP (bodyOf Try.f16) [1, 1, 1, 1, 1, 1, 1, 1, 1, 1, 0, 1, 0, 0]), .inBlock 4, .code (cP (bodyOf Try.f16) [1, 1, 1, 1, 1, 1, 1, 1, 1, 1, 1])] (overF none_ [(1, vS68 p1), (19, vS60 ((rd_T56 p0_2 p2).f0)), (2, .imm (.int .i64 p2)), (20, .imm (.int .i64 v8)), (21, .imm (.int .i64 v9)), (3, .imm (.string p3)), (5, .imm (.int .i64 p5)), (6, .ptr [.imm (.int .i64 p0_0), .imm (.int .i64 p0_1), vS56 p0_2])]) []
def boarderref15_Choose.Sl4 (r0 : Int) (r1 : Bool) (k : Nat) : Prop := ∀ (v8 : Int) (p0_2 : List (S56)) (p2 : Int) (v9 : Int) (p0_0 : Int) (p0_1 : Int) (p1 : List (S68)) (p3 : ByteArray) (p5 : Int) (v10 : Int), boarderref15_Choose.l4 k v8 p0_2 p2 v9 p0_0 p0_1 p1 p3 p5 v10 = some (r0, r1) → Runs boarderref15_Choose.cx (Pur (.tup [.imm (.int .i64 r0), .imm (.bool r1)])) [.code (cP (bodyOf Try.f16) [1, 1, 1, 1, 1, 1, 1, 1, 1, 1, 0, 1, 0, 0, 1, 0, 0, 1, 0, 0, 1, 0, 0, 1, 0, 0]), .inLoop (cP (bodyOf Try.f16) [1, 1, 1, 1, 1, 1, 1, 1, 1, 1, 0, 1, 0, 0, 1, 0, 0, 1, 0, 0, 1, 0, 0, 1, 0, 0]), .inBlock 8, .inBlock 7, .code (cP (bodyOf Try.f16) [1, 1, 1, 1, 1, 1, 1, 1, 1, 1, 0, 1, 0, 0, 1, 0, 0, 1, 0, 0, 1, 1]), .inLoop (cP (bodyOf Try.f16) [1, 1, 1, 1, 1, 1, 1, 1, 1, 1, 0, 1, 0, 0, 1, 0, 0, 1, 0, 0]), .inBlock 6, .inBlock 5, .code (cP (bodyOf Try.f16) [1, 1, 1, 1, 1, 1, 1, 1, 1, 1, 0, 1, 0, 0, 1, 1]), .inLoop (cP (bodyOf Try.f16) [1, 1, 1, 1, 1, 1, 1, 1, 1, 1, 0, 1, 0, 0]), .inBlock 4, .code (cP (bodyOf Try.f16) [1, 1, 1, 1, 1, 1, 1, 1, 1, 1, 1])] (overF none_ [(1, vS68 p1), (19, vS60 ((rd_T56 p0_2 p2).f0)), (2, .imm (.int .i64 p2)), (20, .imm (.int .i64 v8)), (21, .imm (.int .i64 v9)), (22, .imm (.int .i64 v10)), (3, .imm (.string p3)), (5, .imm (.int .i64 p5)), (6, .ptr [.imm (.int .i64 p0_0), .imm (.int .i64 p0_1), vS56 p0_2])]) []
def boarderref15_Choose.Sf (r0 : Int) (r1 : Bool) (k : Nat) : Prop := ∀ (p0_0 : Int) (p0_1 : Int) (p0_2 : List (S56)) (p1 : List (S68)) (p2 : Int) (p3 : ByteArray) (p4 : Int) (p5 : Int), boarderref15_Choose.f k p0_0 p0_1 p0_2 p1 p2 p3 p4 p5 = some (r0, r1) → Runs boarderref15_Choose.cx (Pur (.tup [.imm (.int .i64 r0), .imm (.bool r1)])) [.code (bodyOf Try.f16)] (frame0 [.agg [.imm (.int .i64 p0_0), .imm (.int .i64 p0_1), vS56 p0_2], vS68 p1, .imm (.int .i64 p2), .imm (.string p3), .imm (.int .i64 p4), .imm (.int .i64 p5)]) []
set_option maxHeartbeats 64000000 in
set_option maxRecDepth 100000 in
theorem boarderref15_Choose.seg (r0 : Int) (r1 : Bool) : (∀ k, boarderref15_Choose.Sj0 r0 r1 k ∧ boarderref15_Choose.Sl0 r0 r1 k ∧ boarderref15_Choose.Sl1 r0 r1 k ∧ boarderref15_Choose.Sl2 r0 r1 k ∧ boarderref15_Choose.Sl3 r0 r1 k ∧ boarderref15_Choose.Sl4 r0 r1 k) ∧ ∀ k, (boarderref15_Choose.Sj0 r0 r1 k ∧ boarderref15_Choose.Sl0 r0 r1 k ∧ boarderref15_Choose.Sl1 r0 r1 k ∧ boarderref15_Choose.Sl2 r0 r1 k ∧ boarderref15_Choose.Sl3 r0 r1 k ∧ boarderref15_Choose.Sl4 r0 r1 k) → boarderref15_Choose.Sf r0 r1 k := by
  have hs : ∀ k, (boarderref15_Choose.Sj0 r0 r1 k ∧ boarderref15_Choose.Sl0 r0 r1 k ∧ boarderref15_Choose.Sl1 r0 r1 k ∧ boarderref15_Choose.Sl2 r0 r1 k ∧ boarderref15_Choose.Sl3 r0 r1 k ∧ boarderref15_Choose.Sl4 r0 r1 k) → (boarderref15_Choose.Sj0 r0 r1 (k + 1) ∧ boarderref15_Choose.Sl0 r0 r1 (k + 1) ∧ boarderref15_Choose.Sl1 r0 r1 (k + 1) ∧ boarderref15_Choose.Sl2 r0 r1 (k + 1) ∧ boarderref15_Choose.Sl3 r0 r1 (k + 1) ∧ boarderref15_Choose.Sl4 r0 r1 (k + 1)) ∧ boarderref15_Choose.Sf r0 r1 k := by
    intro k h
    obtain ⟨h_j0, h_l0, h_l1, h_l2, h_l3, h_l4⟩ := h
    refine ⟨⟨?_, ?_, ?_, ?_, ?_, ?_⟩, ?_⟩
    (intro p1 p3 p0_0 p0_1 p0_2 p2 p5 p4 H; rw [boarderref15_Choose.j0] at H; try dsimp only at H)
    rotate_left
    (intro p1 p3 p5 p0_0 p0_1 p0_2 p2 p4 v2 v3 H; rw [boarderref15_Choose.l0] at H; try dsimp only at H)
    rotate_left
    (intro p1 p3 p0_0 p0_1 p0_2 p2 p5 p4 v6 H; rw [boarderref15_Choose.l1] at H; try dsimp only at H)
    rotate_left
    (intro p0_2 p2 p0_0 p0_1 p1 p3 p5 v8 H; rw [boarderref15_Choose.l2] at H; try dsimp only at H)
    rotate_left
    (intro v8 p0_2 p2 p0_0 p0_1 p1 p3 p5 v9 H; rw [boarderref15_Choose.l3] at H; try dsimp only at H)
    rotate_left
    (intro v8 p0_2 p2 v9 p0_0 p0_1 p1 p3 p5 v10 H; rw [boarderref15_Choose.l4] at H; try dsimp only at H)
    rotate_left
    (intro p0_0 p0_1 p0_2 p1 p2 p3 p4 p5 H; unfold boarderref15_Choose.f at H; try dsimp only at H)
    rotate_left
    repeat' (first
      | ((with_reducible have hJ : boarderref15_Choose.j0 _ _ _ _ _ _ _ _ _ = some _ := H); clear hJ; (apply Runs.le [] (h_j0 _ _ _ _ _ _ _ _ H)))
      | ((with_reducible have hJ : boarderref15_Choose.l0 _ _ _ _ _ _ _ _ _ _ _ = some _ := H); clear hJ; (with_reducible apply Runs.loop); (apply Runs.le [] (h_l0 _ _ _ _ _ _ _ _ _ _ H)))
      | ((with_reducible have hJ : boarderref15_Choose.l0 _ _ _ _ _ _ _ _ _ _ _ = some _ := H); clear hJ; (with_reducible apply Runs.inLoop); (apply Runs.le [] (h_l0 _ _ _ _ _ _ _ _ _ _ H)))
      | ((with_reducible have hJ : boarderref15_Choose.l1 _ _ _ _ _ _ _ _ _ _ = some _ := H); clear hJ; (with_reducible apply Runs.loop); (apply Runs.le [] (h_l1 _ _ _ _ _ _ _ _ _ H)))
      | ((with_reducible have hJ : boarderref15_Choose.l1 _ _ _ _ _ _ _ _ _ _ = some _ := H); clear hJ; (with_reducible apply Runs.inLoop); (apply Runs.le [] (h_l1 _ _ _ _ _ _ _ _ _ H)))
      | ((with_reducible have hJ : boarderref15_Choose.l2 _ _ _ _ _ _ _ _ _ = some _ := H); clear hJ; (with_reducible apply Runs.loop); (apply Runs.le [] (h_l2 _ _ _ _ _ _ _ _ H)))
      | ((with_reducible have hJ : boarderref15_Choose.l2 _ _ _ _ _ _ _ _ _ = some _ := H); clear hJ; (with_reducible apply Runs.inLoop); (apply Runs.le [] (h_l2 _ _ _ _ _ _ _ _ H)))
      | ((with_reducible have hJ : boarderref15_Choose.l3 _ _ _ _ _ _ _ _ _ _ = some _ := H); clear hJ; (with_reducible apply Runs.loop); (apply Runs.le [] (h_l3 _ _ _ _ _ _ _ _ _ H)))
      | ((with_reducible have hJ : boarderref15_Choose.l3 _ _ _ _ _ _ _ _ _ _ = some _ := H); clear hJ; (with_reducible apply Runs.inLoop); (apply Runs.le [] (h_l3 _ _ _ _ _ _ _ _ _ H)))
      | ((with_reducible have hJ : boarderref15_Choose.l4 _ _ _ _ _ _ _ _ _ _ _ = some _ := H); clear hJ; (with_reducible apply Runs.loop); (apply Runs.le [] (h_l4 _ _ _ _ _ _ _ _ _ _ H)))
      | ((with_reducible have hJ : boarderref15_Choose.l4 _ _ _ _ _ _ _ _ _ _ _ = some _ := H); clear hJ; (with_reducible apply Runs.inLoop); (apply Runs.le [] (h_l4 _ _ _ _ _ _ _ _ _ _ H)))
      | ((with_reducible replace H := some_ite H); obtain ⟨_, H⟩ := H)
      | (with_reducible replace H := some_bind_ H)
      | (with_reducible replace H := true_ite H)
      | (with_reducible replace H := false_ite H)
      | ((with_reducible have hb := bool_ite H); clear H; rcases hb with ⟨e_, H⟩ | ⟨e_, H⟩ <;> subst e_)
      | ((with_reducible have hb := bool_iteN H); clear H; rcases hb with ⟨e_, H⟩ | ⟨e_, H⟩ <;> subst e_)
      | ((first | with_reducible apply ROps.pure | with_reducible apply DOps.pure); (case hop => rfl); (case hw => rfl); (case hdst => rfl); (case hd => rfl))
      | (first | with_reducible apply ROps.nil | with_reducible apply DOps.nil)
      | (with_reducible apply Runs.seq)
      | (with_reducible apply Runs.region tysOK)
      | ((with_reducible apply Runs.drawnE [] tysOK mixed); (case hB => kernel_rfl))
      | (with_reducible apply Runs.block)
      | (with_reducible apply Runs.skip)
      | (with_reducible apply Runs.inBlock)
      | (with_reducible apply Runs.scope)
      | (with_reducible apply Runs.inScope)
      | (with_reducible apply Runs.label)
      | ((with_reducible apply Runs.condT); (case ho => rfl))
      | ((with_reducible apply Runs.condF); (case ho => rfl))
      | ((with_reducible apply Runs.exit); (case he => rfl))
      | ((first | with_reducible apply ROps.cmp | with_reducible apply DOps.cmp); (case hop => exact cmpX); (case hw => rfl); (case hdst => rfl); (case hd => rfl); (all_goals (intro h; first | (replace H := ite_pos_ h H) | (replace H := ite_neg_ h H) | (replace H := ite_pos_ (Decidable.not_not.1 h) H) | ((try simp only [rd_T56, rd_T60, rd_T68, rd_T76, rdOf] at h); (try simp only [rd_T56, rd_T60, rd_T68, rd_T76, rdOf] at H); (rw [if_pos h] at H)) | ((try simp only [rd_T56, rd_T60, rd_T68, rd_T76, rdOf] at h); (try simp only [rd_T56, rd_T60, rd_T68, rd_T76, rdOf] at H); (rw [if_neg h] at H)) | contradiction | skip)))
      | ((first | with_reducible apply ROps.val | with_reducible apply DOps.val); (case hop => exact valX); (case hw => rfl); (case hdst => rfl); (case hd => rfl))
      | ((first | (with_reducible apply ROps.eqS; case hop => rfl) | (with_reducible apply DOps.eqS; case hop => rfl) | (with_reducible apply ROps.neS; case hop => rfl) | (with_reducible apply DOps.neS; case hop => rfl)); (case ht => rfl); (case hx => rfl); (case hy => rfl); (case hl => rfl); (case hr => rfl); (case hw => rfl); (case hdst => rfl); (case hd => rfl); (all_goals (intro h; first | (replace H := ite_posF H h) | (replace H := ite_negF H h) | (dsimp only [eqP, eqA] at h) | skip)))
      | ((first | with_reducible apply ROps.idx | with_reducible apply DOps.idx); (case hop => rfl); (case hx => rfl); (case hi => rfl); (case he => rfl); (case hw => rfl); (case hdst => rfl); (case hd => rfl); (case h0 => first | assumption | omega); (case h1 => first | assumption | omega))
      | ((first | with_reducible apply ROps.box | with_reducible apply DOps.box); (case hop => rfl); (case hx => rfl); (case hrf => rfl); (case hw => rfl); (all_goals try rfl))
      | ((first | with_reducible apply ROps.off | with_reducible apply DOps.off); (case hw => rfl); (case hdst => rfl); (case hd => rfl))
      | ((with_reducible have hB : (boarderref12_Holds.f _ _ _ _ _).bind _ = some _ := H); clear hB; (replace H := bind_some' H); (obtain ⟨t_, H1, H⟩ := H); (try dsimp only at H); (first | with_reducible apply ROps.call | with_reducible apply DOps.call); (case hop => rfl); (case hc => exact boarderref12_Holds.ok H1); (case ha => exact argsX); (case hw => rfl); (case hdst => rfl); (case hd => rfl))
      | ((with_reducible have hB : (boarderref13_KeptFor.f _ _ _ _ _ _).bind _ = some _ := H); clear hB; (replace H := bind_some' H); (obtain ⟨⟨t_0, t_1⟩, H1, H⟩ := H); (try dsimp only at H); (first | with_reducible apply ROps.call | with_reducible apply DOps.call); (case hop => rfl); (case hc => exact boarderref13_KeptFor.ok H1); (case ha => exact argsX); (case hw => rfl); (case hdst => rfl); (case hd => rfl))
      | ((with_reducible have hB : (boarderref15_Fair.f _ _ _ _ _ _ _).bind _ = some _ := H); clear hB; (replace H := bind_some' H); (obtain ⟨t_, H1, H⟩ := H); (try dsimp only at H); (first | with_reducible apply ROps.call | with_reducible apply DOps.call); (case hop => rfl); (case hc => exact boarderref15_Fair.ok H1); (case ha => exact argsX); (case hw => rfl); (case hdst => rfl); (case hd => rfl))
      | ((with_reducible have hB : (boarderref15_In.f _ _ _ _ _ _).bind _ = some _ := H); clear hB; (replace H := bind_some' H); (obtain ⟨t_, H1, H⟩ := H); (try dsimp only at H); (first | with_reducible apply ROps.call | with_reducible apply DOps.call); (case hop => rfl); (case hc => exact boarderref15_In.ok H1); (case ha => exact argsX); (case hw => rfl); (case hdst => rfl); (case hd => rfl))
      | ((with_reducible have hB : (boarderref15_May.f _ _ _ _ _ _ _ _ _).bind _ = some _ := H); clear hB; (replace H := bind_some' H); (obtain ⟨t_, H1, H⟩ := H); (try dsimp only at H); (first | with_reducible apply ROps.call | with_reducible apply DOps.call); (case hop => rfl); (case hc => exact boarderref15_May.ok H1); (case ha => exact argsX); (case hw => rfl); (case hdst => rfl); (case hd => rfl))
      | ((with_reducible apply Runs.retP tysOK); (case hrs => rfl); (case h => rfl); (case hr => (cases H; exact refX)); (case hx => rfl))
      | exact leRX
      | (refine Runs.code_eq (p' := .seq _ _) rfl ?_)
      | (refine Runs.code_eq (p' := .region _ _ _) rfl ?_)
      | (refine Runs.code_eq (p' := .cond _ _ _) rfl ?_)
      | (refine Runs.code_eq (p' := .block _ _) rfl ?_)
      | (refine Runs.code_eq (p' := .loop _) rfl ?_)
      | (refine Runs.code_eq (p' := .exit _) rfl ?_)
      | (refine Runs.code_eq (p' := .ret) rfl ?_)
      | (refine Runs.code_eq (p' := .skip) rfl ?_)
      | (refine Runs.code_eq (p' := .label _) rfl ?_)
      | (refine Runs.code_eq (p' := .scope _) rfl ?_))
  refine ⟨fun k => ?_, fun k h => (hs k h).2⟩
  induction k with
  | zero => exact ⟨(by intro _ _ _ _ _ _ _ _ H; rw [boarderref15_Choose.j0] at H; cases H), (by intro _ _ _ _ _ _ _ _ _ _ H; rw [boarderref15_Choose.l0] at H; cases H), (by intro _ _ _ _ _ _ _ _ _ H; rw [boarderref15_Choose.l1] at H; cases H), (by intro _ _ _ _ _ _ _ _ H; rw [boarderref15_Choose.l2] at H; cases H), (by intro _ _ _ _ _ _ _ _ _ H; rw [boarderref15_Choose.l3] at H; cases H), (by intro _ _ _ _ _ _ _ _ _ _ H; rw [boarderref15_Choose.l4] at H; cases H)⟩
  | succ k ih => exact (hs k ih).1
theorem boarderref15_Choose.ok {k : Nat} {p0_0 : Int} {p0_1 : Int} {p0_2 : List (S56)} {p1 : List (S68)} {p2 : Int} {p3 : ByteArray} {p4 : Int} {p5 : Int} {r0 : Int} {r1 : Bool} (H : boarderref15_Choose.f k p0_0 p0_1 p0_2 p1 p2 p3 p4 p5 = some (r0, r1)) : CallOK Try.prog glo 16 [.agg [.imm (.int .i64 p0_0), .imm (.int .i64 p0_1), vS56 p0_2], vS68 p1, .imm (.int .i64 p2), .imm (.string p3), .imm (.int .i64 p4), .imm (.int .i64 p5)] (.tup [.imm (.int .i64 r0), .imm (.bool r1)]) :=
  CallOK.of (c := boarderref15_Choose.cx) (p := bodyOf Try.f16) Try.func16 rfl rfl rfl (Nat.le_of_ble_eq_true rfl) rfl ((boarderref15_Choose.seg r0 r1).2 k ((boarderref15_Choose.seg r0 r1).1 k) p0_0 p0_1 p0_2 p1 p2 p3 p4 p5 H)
end Go.Proofs.Ytopbcamlagdieaa.PStats
set_option linter.unusedVariables false
set_option linter.unusedSimpArgs false
namespace Go.Proofs.Ytopbcamlagdieaa.PStats
open Go.RowKit Go.Proofs.YtopbcamlagdieaaW.PrintWords Go.Proofs.YtopbcamlagdieaaW.PrintLast Go.Proofs.YtopbcamlagdieaaW.PrintMore Go.Proofs.Ytopbcamlagdieaa.Abs
/-! ### boarderlaw26_StatsFree: function 5 -/
def boarderlaw26_StatsFree.f (k : Nat) (p0_0 : Int) (p0_1 : Int) (p0_2 : List (S56)) (p1 : List (S68)) (p2 : Int) (p3 : ByteArray) (p4 : Int) : Option (Bool) := ((boarderlaw26_great.f k p0_0 p0_1 p0_2 p1).bind fun t1 => (if t1 = true then ((boarderlaw26_knows.f k).bind fun t2 => (some t2)) else (if (p3.size : Int) > 1000 then ((boarderlaw26_knows.f k).bind fun t18 => (some t18)) else (if p4 < 0 then ((boarderlaw26_knows.f k).bind fun t17 => (some t17)) else (if p4 > 1125899906842624 then ((boarderlaw26_knows.f k).bind fun t16 => (some t16)) else ((boarderref15_Fair.f k p0_0 p0_1 p0_2 p1 p2 p3).bind fun t3 => (if (!t3) = true then ((boarderlaw26_knows.f k).bind fun t4 => (some t4)) else ((boarderref13_KeptFor.f k p0_0 p0_1 p0_2 p2 p3).bind fun b5 => (if b5.2 = true then ((boarderlaw26_knows.f k).bind fun t6 => (some t6)) else ((boarderref12_Of.f k p1 p3).bind fun t7 => (if (t7.length : Int) > 0 then ((boarderlaw26_knows.f k).bind fun t15 => (some t15)) else ((stats_Wait.f k p0_0 p0_1 p0_2 p1 p2 p4).bind fun b8 => (if (!b8.2) = true then ((boarderref15_Choose.f k p0_0 p0_1 p0_2 p1 p2 p3 0 p4).bind fun b9 => (if (!b9.2) = true then (if b8.1 = 0 then ((boarderlaw26_knows.f k).bind fun t10 => (some t10)) else (some false)) else (some false))) else ((boarderref15_Choose.f k p0_0 p0_1 p0_2 p1 p2 p3 0 (wrap64 (p4 + b8.1))).bind fun b11 => (if b8.1 > 0 then ((boarderref15_Choose.f k p0_0 p0_1 p0_2 p1 p2 p3 0 (wrap64 ((wrap64 (p4 + b8.1)) - 1))).bind fun b13 => (if b11.2 = true then (if (!b13.2) = true then ((boarderlaw26_knows.f k).bind fun t14 => (some t14)) else (some false)) else (some false))) else (if b11.2 = true then (if b8.1 = 0 then ((boarderlaw26_knows.f k).bind fun t12 => (some t12)) else (some false)) else (some false)))))))))))))))))
noncomputable def boarderlaw26_StatsFree.cx : Cx := ⟨Try.prog, tys, glo, 131, Try.f5, [.tmp 10], 0⟩
def boarderlaw26_StatsFree.Sf (r0 : Bool) (k : Nat) : Prop := ∀ (p0_0 : Int) (p0_1 : Int) (p0_2 : List (S56)) (p1 : List (S68)) (p2 : Int) (p3 : ByteArray) (p4 : Int), boarderlaw26_StatsFree.f k p0_0 p0_1 p0_2 p1 p2 p3 p4 = some r0 → Runs boarderlaw26_StatsFree.cx (Pur (.imm (.bool r0))) [.code (bodyOf Try.f5)] (frame0 [.agg [.imm (.int .i64 p0_0), .imm (.int .i64 p0_1), vS56 p0_2], vS68 p1, .imm (.int .i64 p2), .imm (.string p3), .imm (.int .i64 p4)]) []
set_option maxHeartbeats 64000000 in
set_option maxRecDepth 100000 in
theorem boarderlaw26_StatsFree.seg (r0 : Bool) (k : Nat) : boarderlaw26_StatsFree.Sf r0 k := by
  intro p0_0 p0_1 p0_2 p1 p2 p3 p4 H
  unfold boarderlaw26_StatsFree.f at H
  try dsimp only at H
  repeat' (first
    | ((with_reducible replace H := some_ite H); obtain ⟨_, H⟩ := H)
    | (with_reducible replace H := some_bind_ H)
    | (with_reducible replace H := true_ite H)
    | (with_reducible replace H := false_ite H)
    | ((with_reducible have hb := bool_ite H); clear H; rcases hb with ⟨e_, H⟩ | ⟨e_, H⟩ <;> subst e_)
    | ((with_reducible have hb := bool_iteN H); clear H; rcases hb with ⟨e_, H⟩ | ⟨e_, H⟩ <;> subst e_)
    | ((with_reducible apply ROps.pure); (case hop => rfl); (case hw => rfl); (case hdst => rfl); (case hd => rfl))
    | (with_reducible apply ROps.nil)
    | (with_reducible apply Runs.seq)
    | (with_reducible apply Runs.region tysOK)
    | (with_reducible apply Runs.skip)
    | (with_reducible apply Runs.scope)
    | (with_reducible apply Runs.inScope)
    | (with_reducible apply Runs.label)
    | ((with_reducible apply Runs.condT); (case ho => rfl))
    | ((with_reducible apply Runs.condF); (case ho => rfl))
    | ((with_reducible apply ROps.cmp); (case hop => exact cmpX); (case hw => rfl); (case hdst => rfl); (case hd => rfl); (all_goals (intro h; first | (replace H := ite_pos_ h H) | (replace H := ite_neg_ h H) | (replace H := ite_pos_ (Decidable.not_not.1 h) H) | ((try simp only [rdOf] at h); (try simp only [rdOf] at H); (rw [if_pos h] at H)) | ((try simp only [rdOf] at h); (try simp only [rdOf] at H); (rw [if_neg h] at H)) | contradiction | skip)))
    | ((with_reducible apply ROps.val); (case hop => exact valX); (case hw => rfl); (case hdst => rfl); (case hd => rfl))
    | ((first | (with_reducible apply ROps.eqS; case hop => rfl) | (with_reducible apply ROps.neS; case hop => rfl)); (case ht => rfl); (case hx => rfl); (case hy => rfl); (case hl => rfl); (case hr => rfl); (case hw => rfl); (case hdst => rfl); (case hd => rfl); (all_goals (intro h; first | (replace H := ite_posF H h) | (replace H := ite_negF H h) | (dsimp only [eqP, eqA] at h) | skip)))
    | ((with_reducible apply ROps.box); (case hop => rfl); (case hx => rfl); (case hrf => rfl); (case hw => rfl); (all_goals try rfl))
    | ((with_reducible apply ROps.off); (case hw => rfl); (case hdst => rfl); (case hd => rfl))
    | ((with_reducible have hB : (boarderlaw26_great.f _ _ _ _ _).bind _ = some _ := H); clear hB; (replace H := bind_some' H); (obtain ⟨t_, H1, H⟩ := H); (try dsimp only at H); (with_reducible apply ROps.call); (case hop => rfl); (case hc => exact boarderlaw26_great.ok H1); (case ha => exact argsX); (case hw => rfl); (case hdst => rfl); (case hd => rfl))
    | ((with_reducible have hB : (boarderlaw26_knows.f _).bind _ = some _ := H); clear hB; (replace H := bind_some' H); (obtain ⟨t_, H1, H⟩ := H); (try dsimp only at H); (with_reducible apply ROps.call); (case hop => rfl); (case hc => exact boarderlaw26_knows.ok H1); (case ha => exact argsX); (case hw => rfl); (case hdst => rfl); (case hd => rfl))
    | ((with_reducible have hB : (boarderref12_Of.f _ _ _).bind _ = some _ := H); clear hB; (replace H := bind_some' H); (obtain ⟨t_, H1, H⟩ := H); (try dsimp only at H); (with_reducible apply ROps.call); (case hop => rfl); (case hc => exact boarderref12_Of.ok H1); (case ha => exact argsX); (case hw => rfl); (case hdst => rfl); (case hd => rfl))
    | ((with_reducible have hB : (boarderref13_KeptFor.f _ _ _ _ _ _).bind _ = some _ := H); clear hB; (replace H := bind_some' H); (obtain ⟨⟨t_0, t_1⟩, H1, H⟩ := H); (try dsimp only at H); (with_reducible apply ROps.call); (case hop => rfl); (case hc => exact boarderref13_KeptFor.ok H1); (case ha => exact argsX); (case hw => rfl); (case hdst => rfl); (case hd => rfl))
    | ((with_reducible have hB : (boarderref15_Choose.f _ _ _ _ _ _ _ _ _).bind _ = some _ := H); clear hB; (replace H := bind_some' H); (obtain ⟨⟨t_0, t_1⟩, H1, H⟩ := H); (try dsimp only at H); (with_reducible apply ROps.call); (case hop => rfl); (case hc => exact boarderref15_Choose.ok H1); (case ha => exact argsX); (case hw => rfl); (case hdst => rfl); (case hd => rfl))
    | ((with_reducible have hB : (boarderref15_Fair.f _ _ _ _ _ _ _).bind _ = some _ := H); clear hB; (replace H := bind_some' H); (obtain ⟨t_, H1, H⟩ := H); (try dsimp only at H); (with_reducible apply ROps.call); (case hop => rfl); (case hc => exact boarderref15_Fair.ok H1); (case ha => exact argsX); (case hw => rfl); (case hdst => rfl); (case hd => rfl))
    | ((with_reducible have hB : (stats_Wait.f _ _ _ _ _ _ _).bind _ = some _ := H); clear hB; (replace H := bind_some' H); (obtain ⟨⟨t_0, t_1⟩, H1, H⟩ := H); (try dsimp only at H); (with_reducible apply ROps.call); (case hop => rfl); (case hc => exact stats_Wait.ok H1); (case ha => exact argsX); (case hw => rfl); (case hdst => rfl); (case hd => rfl))
    | ((with_reducible apply Runs.retP tysOK); (case hrs => rfl); (case h => rfl); (case hr => (cases H; exact refX)); (case hx => rfl))
    | exact leRX
    | (refine Runs.code_eq (p' := .seq _ _) rfl ?_)
    | (refine Runs.code_eq (p' := .region _ _ _) rfl ?_)
    | (refine Runs.code_eq (p' := .cond _ _ _) rfl ?_)
    | (refine Runs.code_eq (p' := .block _ _) rfl ?_)
    | (refine Runs.code_eq (p' := .loop _) rfl ?_)
    | (refine Runs.code_eq (p' := .exit _) rfl ?_)
    | (refine Runs.code_eq (p' := .ret) rfl ?_)
    | (refine Runs.code_eq (p' := .skip) rfl ?_)
    | (refine Runs.code_eq (p' := .label _) rfl ?_)
    | (refine Runs.code_eq (p' := .scope _) rfl ?_))
theorem boarderlaw26_StatsFree.ok {k : Nat} {p0_0 : Int} {p0_1 : Int} {p0_2 : List (S56)} {p1 : List (S68)} {p2 : Int} {p3 : ByteArray} {p4 : Int} {r0 : Bool} (H : boarderlaw26_StatsFree.f k p0_0 p0_1 p0_2 p1 p2 p3 p4 = some r0) : CallOK Try.prog glo 5 [.agg [.imm (.int .i64 p0_0), .imm (.int .i64 p0_1), vS56 p0_2], vS68 p1, .imm (.int .i64 p2), .imm (.string p3), .imm (.int .i64 p4)] (.imm (.bool r0)) :=
  CallOK.of (c := boarderlaw26_StatsFree.cx) (p := bodyOf Try.f5) Try.func5 rfl rfl rfl (Nat.le_of_ble_eq_true rfl) rfl (boarderlaw26_StatsFree.seg r0 k p0_0 p0_1 p0_2 p1 p2 p3 p4 H)
end Go.Proofs.Ytopbcamlagdieaa.PStats
set_option linter.unusedVariables false
set_option linter.unusedSimpArgs false
namespace Go.Proofs.Ytopbcamlagdieaa.PStats
open Go.RowKit Go.Proofs.YtopbcamlagdieaaW.PrintWords Go.Proofs.YtopbcamlagdieaaW.PrintLast Go.Proofs.YtopbcamlagdieaaW.PrintMore Go.Proofs.Ytopbcamlagdieaa.Abs
/-- What is to be shown of boarderlaw26_StatsFree, with no program in sight. -/
def boarderlaw26_StatsFree.Pure : Prop := ∀ (p0_0 : Int) (p0_1 : Int) (p0_2 : List (S56)) (p1 : List (S68)) (p2 : Int) (p3 : ByteArray) (p4 : Int), ok34 (⟨p0_0, p0_1, p0_2⟩ : S34) → (fun xs : List (S68) => xs.length ≤ maxLen ∧ ∀ x ∈ xs, ok68 x) p1 → (Lit.int .i64 p2).wf = true → p3.size ≤ 140737488351232 → (Lit.int .i64 p4).wf = true → ∃ k, boarderlaw26_StatsFree.f k p0_0 p0_1 p0_2 p1 p2 p3 p4 = some true
theorem boarderlaw26_StatsFree.walk (P : boarderlaw26_StatsFree.Pure) (p0_0 : Int) (p0_1 : Int) (p0_2 : List (S56)) (p1 : List (S68)) (p2 : Int) (p3 : ByteArray) (p4 : Int) (w : World) (ok_0 : ok34 (⟨p0_0, p0_1, p0_2⟩ : S34)) (ok_1 : (fun xs : List (S68) => xs.length ≤ maxLen ∧ ∀ x ∈ xs, ok68 x) p1) (w2 : (Lit.int .i64 p2).wf = true) (w3 : p3.size ≤ 140737488351232) (w4 : (Lit.int .i64 p4).wf = true) (cs0 : Array Value) (hr0 : RepL w (eS34 (⟨p0_0, p0_1, p0_2⟩ : S34)) cs0.toList) (A1 : Option Addr) (c1 : Nat) (hr1 : RepL w [vS68 p1] [.slice A1 p1.length c1]) :
    Calls Try.prog 5 #[.agg cs0, .slice A1 p1.length c1, .int .i64 p2, .string p3, .int .i64 p4] w fun e w' => e = .returned (.bool true) ∧ Below w.heap.size w w' := by
  obtain ⟨k, h⟩ := P p0_0 p0_1 p0_2 p1 p2 p3 p4 ok_0 ok_1 w2 w3 w4
  exact (boarderlaw26_StatsFree.ok h).law (vs := [.agg cs0, .slice A1 p1.length c1, .int .i64 p2, .string p3, .int .i64 p4]) (fun _ => .any _) rfl (reps_cons (arg_agg hr0) (reps_cons (arg_one hr1) (reps_cons (.imm _) (reps_cons (.imm _) (reps_cons (.imm _) reps_nil)))))
end Go.Proofs.Ytopbcamlagdieaa.PStats
set_option linter.unusedVariables false
set_option linter.unusedSimpArgs false
namespace Go.Proofs.Ytopbcamlagdieaa.PStats
open Go.RowKit Go.Proofs.YtopbcamlagdieaaW.PrintWords Go.Proofs.YtopbcamlagdieaaW.PrintLast Go.Proofs.YtopbcamlagdieaaW.PrintMore

/-! ### boarderref01.Right -/
theorem boarderref01_Right_s (a : Int) : boarderref01_Right.f a = some (decide (0 ≤ a ∧ a ≤ 4294967295)) := by
  unfold boarderref01_Right.f
  by_cases h : a ≥ 0
  · rw [if_pos h]; congr 1; exact decide_eq_decide.2 ⟨fun h2 => ⟨h, by omega⟩, fun h2 => by omega⟩
  · rw [if_neg h, decide_eq_false (by omega)]

end Go.Proofs.Ytopbcamlagdieaa.PStats
set_option linter.unusedVariables false
set_option linter.unusedSimpArgs false
namespace Go.Proofs.Ytopbcamlagdieaa.PStats
open Go.RowKit Go.Proofs.YtopbcamlagdieaaW.PrintWords Go.Proofs.YtopbcamlagdieaaW.PrintLast Go.Proofs.YtopbcamlagdieaaW.PrintMore

/-! ### boarderref07.Right -/
theorem boarderref07_Right_s (s : ByteArray) : boarderref07_Right.f s = some (keyB s) := by
  unfold boarderref07_Right.f keyB
  by_cases h0 : (s.size : Int) < 3
  · rw [if_pos h0, decide_eq_false (show ¬ 3 ≤ s.size by omega)]; rfl
  · rw [if_neg h0, if_pos (by omega), decide_eq_true (show 3 ≤ s.size by omega), Bool.true_and]
    by_cases h1 : bt s 0 = 105
    · rw [if_pos h1]
      by_cases h2 : (s.size : Int) ≤ 256
      · rw [if_pos h2, decide_eq_true (show bt s 0 = 105 ∧ s.size ≤ 256 from ⟨h1, by omega⟩)]; rfl
      · rw [if_neg h2, if_neg (by omega), decide_eq_false (by omega), decide_eq_false (by omega)]; rfl
    · rw [if_neg h1, decide_eq_false (show ¬ (bt s 0 = 105 ∧ s.size ≤ 256) from fun h => h1 h.1), Bool.false_or]
      by_cases h3 : bt s 0 = 104
      · rw [if_pos h3]
        congr 1
        exact decide_eq_decide.2 ⟨fun h => ⟨h3, by omega⟩, fun h => by omega⟩
      · rw [if_neg h3, decide_eq_false (fun h => h3 h.1)]

end Go.Proofs.Ytopbcamlagdieaa.PStats
set_option linter.unusedVariables false
set_option linter.unusedSimpArgs false
namespace Go.Proofs.Ytopbcamlagdieaa.PStats
open Go.RowKit Go.Proofs.YtopbcamlagdieaaW.PrintWords Go.Proofs.YtopbcamlagdieaaW.PrintLast Go.Proofs.YtopbcamlagdieaaW.PrintMore

/-! ### boarderref01.Size -/
theorem boarderref01_Size_l (d : Nat) : ∀ (n : Int) (x : Nat) (k : Nat), 0 ≤ n → n + d = 32 → x * 2 ^ d ≤ 4294967296 → d < k → boarderref01_Size.l0 k x n = some ((x * 2 ^ d : Nat) : Int) := by
  induction d with
  | zero =>
    intro n x k h0 h1 h2 hk
    obtain ⟨k, rfl⟩ : ∃ m, k = m + 1 := ⟨k - 1, by omega⟩
    rw [boarderref01_Size.l0, if_neg (by omega)]; simp
  | succ d ih =>
    intro n x k h0 h1 h2 hk
    obtain ⟨k, rfl⟩ : ∃ m, k = m + 1 := ⟨k - 1, by omega⟩
    have hp := Nat.two_pow_pos d
    have e : x * 2 ^ (d + 1) = x * 2 * 2 ^ d := by rw [Nat.pow_succ, Nat.mul_assoc, Nat.mul_comm 2]
    have hx : x * 2 ≤ 4294967296 := by
      rw [e] at h2
      exact Nat.le_trans (Nat.le_mul_of_pos_right _ hp) h2
    rw [boarderref01_Size.l0, if_pos (by omega), show wrap64 ((x : Int) * 2) = ((x * 2 : Nat) : Int) from by unfold wrap64; omega, show wrap64 (n + 1) = n + 1 from by unfold wrap64; omega, ih (n + 1) (x * 2) k (by omega) (by omega) (by omega) (by omega), e]
theorem boarderref01_Size_s (n : Int) (h0 : 0 ≤ n) (h1 : n ≤ 32) (k : Nat) (hk : 40 ≤ k) : boarderref01_Size.f k n = some (Com.sz n : Int) := by
  have e := boarderref01_Size_l (32 - n.toNat) n 1 k h0 (by omega) (by have := Com.sz_le n; unfold Com.sz at this; omega) (by omega)
  rw [Nat.one_mul] at e
  exact e

end Go.Proofs.Ytopbcamlagdieaa.PStats
set_option linter.unusedVariables false
set_option linter.unusedSimpArgs false
namespace Go.Proofs.Ytopbcamlagdieaa.PStats
open Go.RowKit Go.Proofs.YtopbcamlagdieaaW.PrintWords Go.Proofs.YtopbcamlagdieaaW.PrintLast Go.Proofs.YtopbcamlagdieaaW.PrintMore

/-! ### boarderref01.Fair -/
theorem boarderref01_Fair_s (b n : Int) (k : Nat) (hk : 40 ≤ k) : boarderref01_Fair.f k b n = some (Com.fairB b n) := by
  unfold boarderref01_Fair.f Com.fairB
  by_cases h0 : n ≥ 0
  · rw [if_pos h0]
    by_cases h1 : n ≤ 32
    · rw [if_pos h1, boarderref01_Right_s]
      simp only [Option.bind_some]
      by_cases h2 : 0 ≤ b ∧ b ≤ 4294967295
      · have hp := Com.sz_pos n
        rw [decide_eq_true h2, if_pos rfl, boarderref01_Size_s n h0 h1 k hk, Option.bind_some, if_neg (by omega), Int.tmod_eq_emod_of_nonneg h2.1]
        congr 1
        rw [Bool.eq_iff_iff, beq_iff_eq, decide_eq_true_iff]
        exact ⟨fun h => ⟨h0, h1, h2.1, h2.2, h⟩, fun h => h.2.2.2.2⟩
      · rw [decide_eq_false h2, if_neg (by simp), decide_eq_false (fun h => h2 ⟨h.2.2.1, h.2.2.2.1⟩)]
    · rw [if_neg h1, decide_eq_false (fun h => h1 h.2.1)]
  · rw [if_neg h0, decide_eq_false (fun h => h0 h.1)]

end Go.Proofs.Ytopbcamlagdieaa.PStats
set_option linter.unusedVariables false
set_option linter.unusedSimpArgs false
namespace Go.Proofs.Ytopbcamlagdieaa.PStats
open Go.RowKit Go.Proofs.YtopbcamlagdieaaW.PrintWords Go.Proofs.YtopbcamlagdieaaW.PrintLast Go.Proofs.YtopbcamlagdieaaW.PrintMore

/-! ### boarderref13.subnet -/
theorem boarderref13_subnet_l1 (a b : Int) (p : List Rg) (l : List Rs) (c d e : Int) (hl : l.length ≤ 20) {r : Bool} (hr : r = decide (∀ i, (h : i < l.length) → keyB l[i].f0 = true)) : Ev (fun k => boarderref13_subnet.l1 k 0 a b p l c d e) r := by
  refine loopC (n := l.length) (L := fun k i => boarderref13_subnet.l1 k i a b p l c d e) (fun i => (h : i < l.length) → keyB l[i].f0 = true) false (fun i hi hp r h => ?_) (fun i hi hp => ?_) (fun h => ?_) (fun h => ?_)
  · refine Ev.step (fun k => ?_) h
    show boarderref13_subnet.l1 (k + 1) _ _ _ _ _ _ _ _ = _
    rw [boarderref13_subnet.l1, if_pos (by omega), if_pos (by omega), show rd_T65 l (i : Int) = l[i] from rd_get hi, boarderref07_Right_s, hp hi, Option.bind_some, if_pos rfl, wrap_next hi (by omega)]
  · refine Ev.step (f := fun _ => some false) (fun k => ?_) Ev.some'
    have h2 : keyB l[i].f0 = false := by
      cases h : keyB l[i].f0 with
      | false => rfl
      | true => exact absurd (fun _ => h) hp
    show boarderref13_subnet.l1 (k + 1) _ _ _ _ _ _ _ _ = _
    rw [boarderref13_subnet.l1, if_pos (by omega), if_pos (by omega), show rd_T65 l (i : Int) = l[i] from rd_get hi, boarderref07_Right_s, h2, Option.bind_some, if_neg (by simp)]
  · rw [hr, decide_eq_true (fun i hi => h i hi hi)]
    refine Ev.step (f := fun _ => some true) (fun k => ?_) Ev.some'
    show boarderref13_subnet.l1 (k + 1) _ _ _ _ _ _ _ _ = _
    rw [boarderref13_subnet.l1, if_neg (by omega)]
  · obtain ⟨i, hi, hp⟩ := h
    rw [hr]
    exact decide_eq_false (fun h => hp (fun hi => h i hi))
theorem boarderref13_subnet_l0 (a b : Int) (p : List Rg) (l : List Rs) (c d e : Int) (hl : l.length ≤ 20) (hp : p.length ≤ 20) {r : Bool}
    (hr : r = decide ((∀ i, (h : i < p.length) → p[i].f0 ≤ p[i].f1) ∧ ∀ i, (h : i < l.length) → keyB l[i].f0 = true)) : Ev (fun k => boarderref13_subnet.l0 k 0 a b p l c d e) r := by
  refine loopC (n := p.length) (L := fun k i => boarderref13_subnet.l0 k i a b p l c d e) (fun i => (h : i < p.length) → p[i].f0 ≤ p[i].f1) false (fun i hi hp r h => ?_) (fun i hi hp => ?_) (fun h => ?_) (fun h => ?_)
  · refine Ev.step (fun k => ?_) h
    have := hp hi
    clear hp
    show boarderref13_subnet.l0 (k + 1) _ _ _ _ _ _ _ _ = _
    rw [boarderref13_subnet.l0, if_pos (by omega), if_pos (by omega), show rd_T76 p (i : Int) = p[i] from rd_get hi, if_neg (by omega), wrap_next hi (by omega)]
  · refine Ev.step (f := fun _ => some false) (fun k => ?_) Ev.some'
    have : p[i].f1 < p[i].f0 := by
      by_cases h : p[i].f1 < p[i].f0
      · exact h
      · exact absurd (fun _ => Int.not_lt.1 h) hp
    clear hp
    show boarderref13_subnet.l0 (k + 1) _ _ _ _ _ _ _ _ = _
    rw [boarderref13_subnet.l0, if_pos (by omega), if_pos (by omega), show rd_T76 p (i : Int) = p[i] from rd_get hi, if_pos this]
  · refine Ev.step (fun k => ?_) (boarderref13_subnet_l1 a b p l c d e hl ?_)
    · show boarderref13_subnet.l0 (k + 1) _ _ _ _ _ _ _ _ = _
      rw [boarderref13_subnet.l0, if_neg (by omega)]
    · rw [hr]; exact decide_eq_decide.2 ⟨fun h2 => h2.2, fun h2 => ⟨fun i hi => h i hi hi, h2⟩⟩
  · obtain ⟨i, hi, hp⟩ := h
    rw [hr]
    exact decide_eq_false (fun h => hp (fun hi => h.1 i hi))
open Classical in
theorem boarderref13_subnet_s (s : Sb) (hs : SmS s) : Ev (fun k => boarderref13_subnet.f k s.f0 s.f1 s.f2 s.f3 s.f4 s.f5 s.f6) (decide (FairS s)) := by
  obtain ⟨h1, h2, h3⟩ := hs
  have J1 : ∀ (x : Bool), (x = true → ¬ FairS s) → (x = false → (FairS s ↔ ((∀ i, (h : i < s.f2.length) → s.f2[i].f0 ≤ s.f2[i].f1) ∧ ∀ i, (h : i < s.f3.length) → keyB s.f3[i].f0 = true))) →
      Ev (fun k => boarderref13_subnet.j1 k x s.f0 s.f1 s.f2 s.f3 s.f4 s.f5 s.f6) (decide (FairS s)) := by
    intro x hx hy
    cases x with
    | true =>
      rw [decide_eq_false (hx rfl)]
      exact Ev.step (f := fun _ => some false) (fun k => by show boarderref13_subnet.j1 (k + 1) _ _ _ _ _ _ _ _ = _; rw [boarderref13_subnet.j1, if_pos rfl]) Ev.some'
    | false =>
      refine Ev.step (fun k => by show boarderref13_subnet.j1 (k + 1) _ _ _ _ _ _ _ _ = _; rw [boarderref13_subnet.j1, if_neg (by simp)]) (boarderref13_subnet_l0 _ _ _ _ _ _ _ h2 h1 ?_)
      exact decide_eq_decide.2 (hy rfl)
  have J0 : ∀ (x : Bool), (x = true → ¬ FairS s) → (x = false → (Com.fairB s.f0 s.f1 = true ∧ 8 ≤ s.f1 ∧ s.f1 ≤ 30 ∧ s.f2.length ≤ 4 ∧ s.f3.length ≤ 8)) →
      Ev (fun k => boarderref13_subnet.j0 k x s.f0 s.f1 s.f2 s.f3 s.f4 s.f5 s.f6) (decide (FairS s)) := by
    intro x hx hy
    cases x with
    | true =>
      rw [decide_eq_false (hx rfl)]
      exact Ev.step (f := fun _ => some false) (fun k => by show boarderref13_subnet.j0 (k + 1) _ _ _ _ _ _ _ _ = _; rw [boarderref13_subnet.j0, if_pos rfl]) Ev.some'
    | false =>
      obtain ⟨b1, b2, b3, b4, b5⟩ := hy rfl
      refine Ev.step (fun k => by show boarderref13_subnet.j0 (k + 1) _ _ _ _ _ _ _ _ = _; rw [boarderref13_subnet.j0, if_neg (by simp)]) ?_
      by_cases a1 : s.f4 < 0
      · exact Ev.pos a1 (J1 true (fun _ h => by have := h.2.2.2.2.2.1; omega) (fun h => by cases h))
      · refine Ev.neg a1 ?_
        by_cases a2 : s.f4 > 99
        · exact Ev.pos a2 (J1 true (fun _ h => by have := h.2.2.2.2.2.2.1; omega) (fun h => by cases h))
        · refine Ev.neg a2 ?_
          by_cases a3 : s.f6 < 1
          · exact Ev.pos a3 (J1 true (fun _ h => by have := h.2.2.2.2.2.2.2.1; omega) (fun h => by cases h))
          · refine Ev.neg a3 (J1 _ (fun h h2 => ?_) (fun h => ?_))
            · have := of_decide_eq_true h; have := h2.2.2.2.2.2.2.2.2.1; omega
            · have := of_decide_eq_false h
              exact ⟨fun h => h.2.2.2.2.2.2.2.2.2, fun h => ⟨b1, b2, b3, b4, b5, Int.not_lt.1 a1, Int.not_lt.1 a2, Int.not_lt.1 a3, Int.not_lt.1 this, h⟩⟩
  refine Ev.bind (g := fun k => boarderref01_Fair.f k s.f0 s.f1) (a := Com.fairB s.f0 s.f1) ⟨40, fun k hk => boarderref01_Fair_s _ _ k hk⟩ (f := fun k t => if t = true then _ else _) ?_
  by_cases a1 : Com.fairB s.f0 s.f1 = true
  · refine Ev.pos a1 ?_
    by_cases a2 : s.f1 < 8
    · exact Ev.pos a2 (J0 true (fun _ h => by have := h.2.1; omega) (fun h => by cases h))
    · refine Ev.neg a2 ?_
      by_cases a3 : s.f1 > 30
      · exact Ev.pos a3 (J0 true (fun _ h => by have := h.2.2.1; omega) (fun h => by cases h))
      · refine Ev.neg a3 ?_
        by_cases a4 : (s.f2.length : Int) > 4
        · exact Ev.pos a4 (J0 true (fun _ h => by have := h.2.2.2.1; omega) (fun h => by cases h))
        · refine Ev.neg a4 (J0 _ (fun h h2 => ?_) (fun h => ?_))
          · have := of_decide_eq_true h; have := h2.2.2.2.2.1; omega
          · have := of_decide_eq_false h; exact ⟨a1, by omega, by omega, by omega, by omega⟩
  · exact Ev.neg a1 (J0 true (fun _ h => a1 h.1) (fun h => by cases h))

end Go.Proofs.Ytopbcamlagdieaa.PStats
set_option linter.unusedVariables false
set_option linter.unusedSimpArgs false
namespace Go.Proofs.Ytopbcamlagdieaa.PStats
open Go.RowKit Go.Proofs.YtopbcamlagdieaaW.PrintWords Go.Proofs.YtopbcamlagdieaaW.PrintLast Go.Proofs.YtopbcamlagdieaaW.PrintMore

/-! ### boarderref13.Form -/
open Classical in
theorem boarderref13_Form_l1 (a b : Int) (nets : List Nt) (m : Nat) (hm : m < nets.length) (h : Sm nets) {r : Bool} (h1 : (∀ s ∈ nets[m].f0, FairS s) → Ev (fun k => boarderref13_Form.l0 k ((m + 1 : Nat) : Int) a b nets) r) (h2 : (¬ ∀ s ∈ nets[m].f0, FairS s) → r = false) :
    Ev (fun k => boarderref13_Form.l1 k (m : Int) 0 a b nets) r := by
  have hN := h.1
  have h10 := (h.2 nets[m] (List.getElem_mem hm)).1
  have eN : rd_T56 nets (m : Int) = nets[m] := rd_get hm
  refine loopC (n := nets[m].f0.length) (L := fun k i => boarderref13_Form.l1 k (m : Int) i a b nets) (fun i => ∃ h : i < nets[m].f0.length, FairS nets[m].f0[i]) false (fun i hi hp r h3 => ?_) (fun i hi hp => ?_) (fun h3 => ?_) (fun h3 => ?_)
  · obtain ⟨_, hp⟩ := hp
    have e := boarderref13_subnet_s nets[m].f0[i] ((h.2 _ (List.getElem_mem hm)).2 _ (List.getElem_mem hi))
    rw [decide_eq_true hp] at e
    refine Ev.step (fun k => ?_) (Ev.bind e (f := fun k t => if t = true then boarderref13_Form.l1 k (m : Int) ((i + 1 : Nat) : Int) a b nets else some false) (Ev.pos rfl h3))
    show boarderref13_Form.l1 (k + 1) _ _ _ _ _ = _
    rw [boarderref13_Form.l1, if_pos (by omega), if_pos (by omega), eN, if_pos (by omega), if_pos (by omega), show rd_T60 nets[m].f0 (i : Int) = nets[m].f0[i] from rd_get hi, wrap_next hi (by omega)]
  · have e := boarderref13_subnet_s nets[m].f0[i] ((h.2 _ (List.getElem_mem hm)).2 _ (List.getElem_mem hi))
    rw [decide_eq_false (fun h => hp ⟨hi, h⟩)] at e
    refine Ev.step (fun k => ?_) (Ev.bind e (f := fun k t => if t = true then boarderref13_Form.l1 k (m : Int) ((i + 1 : Nat) : Int) a b nets else some false) (Ev.neg (by simp) Ev.some'))
    show boarderref13_Form.l1 (k + 1) _ _ _ _ _ = _
    rw [boarderref13_Form.l1, if_pos (by omega), if_pos (by omega), eN, if_pos (by omega), if_pos (by omega), show rd_T60 nets[m].f0 (i : Int) = nets[m].f0[i] from rd_get hi, wrap_next hi (by omega)]
  · refine Ev.step (fun k => ?_) (h1 (fun s hs => by obtain ⟨i, hi, rfl⟩ := List.mem_iff_getElem.1 hs; exact (h3 i hi).2))
    show boarderref13_Form.l1 (k + 1) _ _ _ _ _ = _
    rw [boarderref13_Form.l1, if_pos (by omega), if_pos (by omega), eN, if_neg (by omega), wrap_next hm (by omega)]
  · obtain ⟨i, hi, hp⟩ := h3
    exact h2 (fun h => hp ⟨hi, h _ (List.getElem_mem hi)⟩)
theorem boarderref13_Form_l0 (a b : Int) (nets : List Nt) (h : Sm nets) {r : Bool} (hr : r = true ↔ (∀ n ∈ nets, 1 ≤ n.f0.length ∧ n.f0.length ≤ 4) ∧ ∀ n ∈ nets, ∀ s ∈ n.f0, FairS s) : Ev (fun k => boarderref13_Form.l0 k 0 a b nets) r := by
  have hN := h.1
  have J : ∀ (i : Nat) (hi : i < nets.length) (x : Bool) (r : Bool), (x = true → r = false) → (x = false → Ev (fun k => boarderref13_Form.l1 k (i : Int) 0 a b nets) r) → Ev (fun k => boarderref13_Form.j2 k (i : Int) x a b nets) r := by
    intro i hi x r hx hy
    cases x with
    | true => rw [hx rfl]; exact Ev.step (f := fun _ => some false) (fun k => by show boarderref13_Form.j2 (k + 1) _ _ _ _ _ = _; rw [boarderref13_Form.j2, if_pos rfl]) Ev.some'
    | false => exact Ev.step (fun k => by show boarderref13_Form.j2 (k + 1) _ _ _ _ _ = _; rw [boarderref13_Form.j2, if_neg (by simp)]) (hy rfl)
  have S : ∀ (i : Nat) (hi : i < nets.length) (r : Bool), ((1 ≤ nets[i].f0.length ∧ nets[i].f0.length ≤ 4) → Ev (fun k => boarderref13_Form.l1 k (i : Int) 0 a b nets) r) → (¬ (1 ≤ nets[i].f0.length ∧ nets[i].f0.length ≤ 4) → r = false) → Ev (fun k => boarderref13_Form.l0 k (i : Int) a b nets) r := by
    intro i hi r h1 h2
    refine Ev.step (f := fun k => if (nets[i].f0.length : Int) = 0 then boarderref13_Form.j2 k (i : Int) true a b nets else boarderref13_Form.j2 k (i : Int) (decide ((nets[i].f0.length : Int) > 4)) a b nets) (fun k => ?_) ?_
    · show boarderref13_Form.l0 (k + 1) _ _ _ _ = _
      rw [boarderref13_Form.l0, if_pos (by omega), if_pos (by omega), show rd_T56 nets (i : Int) = nets[i] from rd_get hi]
    · by_cases c : (nets[i].f0.length : Int) = 0
      · exact Ev.pos c (J i hi true r (fun _ => h2 (by omega)) (fun h => by cases h))
      · refine Ev.neg c (J i hi _ r (fun h => ?_) (fun h => ?_))
        · have := of_decide_eq_true h; exact h2 (by omega)
        · have := of_decide_eq_false h; exact h1 (by omega)
  refine loopC (n := nets.length) (L := fun k i => boarderref13_Form.l0 k i a b nets) (fun i => ∃ h : i < nets.length, (1 ≤ nets[i].f0.length ∧ nets[i].f0.length ≤ 4) ∧ ∀ s ∈ nets[i].f0, FairS s) false (fun i hi hp r h3 => ?_) (fun i hi hp => ?_) (fun h2 => ?_) (fun h => ?_)
  · obtain ⟨_, hp1, hp2⟩ := hp
    exact S i hi r (fun _ => boarderref13_Form_l1 a b nets i hi h (fun _ => h3) (fun h => absurd hp2 h)) (fun h => absurd hp1 h)
  · refine S i hi false (fun h1 => boarderref13_Form_l1 a b nets i hi h (fun h4 => absurd ⟨hi, h1, h4⟩ hp) (fun _ => rfl)) (fun _ => rfl)
  · rw [hr.2 ⟨fun n hn => by obtain ⟨i, hi, rfl⟩ := List.mem_iff_getElem.1 hn; exact (h2 i hi).2.1, fun n hn => by obtain ⟨i, hi, rfl⟩ := List.mem_iff_getElem.1 hn; exact (h2 i hi).2.2⟩]
    refine Ev.step (f := fun _ => some true) (fun k => ?_) Ev.some'
    show boarderref13_Form.l0 (k + 1) _ _ _ _ = _
    rw [boarderref13_Form.l0, if_neg (by omega)]
  · obtain ⟨i, hi, hp⟩ := h
    cases r with
    | false => rfl
    | true => exact absurd ⟨hi, (hr.1 rfl).1 _ (List.getElem_mem hi), (hr.1 rfl).2 _ (List.getElem_mem hi)⟩ hp
open Classical in
theorem boarderref13_Form_s (a b : Int) (nets : List Nt) (h : Sm nets) : Ev (fun k => boarderref13_Form.f k a b nets) (decide (FormP a b nets)) := by
  have J : ∀ (x : Bool), (x = true → ¬ FormP a b nets) → (x = false → (FormP a b nets ↔ ((∀ n ∈ nets, 1 ≤ n.f0.length ∧ n.f0.length ≤ 4) ∧ ∀ n ∈ nets, ∀ s ∈ n.f0, FairS s))) →
      Ev (fun k => boarderref13_Form.j0 k x a b nets) (decide (FormP a b nets)) := by
    intro x hx hy
    cases x with
    | true =>
      rw [decide_eq_false (hx rfl)]
      exact Ev.step (f := fun _ => some false) (fun k => by show boarderref13_Form.j0 (k + 1) _ _ _ _ = _; rw [boarderref13_Form.j0, if_pos rfl]) Ev.some'
    | false =>
      refine Ev.step (fun k => by show boarderref13_Form.j0 (k + 1) _ _ _ _ = _; rw [boarderref13_Form.j0, if_neg (by simp)]) (boarderref13_Form_l0 a b nets h ?_)
      rw [decide_eq_true_iff]; exact hy rfl
  simp only [boarderref13_Form.f, boarderref01_Right_s, Option.bind_some]
  by_cases a1 : 0 ≤ a ∧ a ≤ 4294967295
  · refine Ev.pos (decide_eq_true a1) ?_
    by_cases a2 : b < 1
    · exact Ev.pos a2 (J true (fun _ h => by have := h.2.2.1; omega) (fun h => by cases h))
    · refine Ev.neg a2 ?_
      by_cases a3 : b > 2147483648
      · exact Ev.pos a3 (J true (fun _ h => by have := h.2.2.2.1; omega) (fun h => by cases h))
      · refine Ev.neg a3 (J _ (fun h3 h4 => ?_) (fun h3 => ?_))
        · have := of_decide_eq_true h3; have := h4.2.2.2.2.1; omega
        · have := of_decide_eq_false h3
          exact ⟨fun h => h.2.2.2.2.2, fun h => ⟨a1.1, a1.2, Int.not_lt.1 a2, Int.not_lt.1 a3, by omega, h⟩⟩
  · exact Ev.neg (by rw [decide_eq_false a1]; simp) (J true (fun _ h => a1 ⟨h.1, h.2.1⟩) (fun h => by cases h))

end Go.Proofs.Ytopbcamlagdieaa.PStats
set_option linter.unusedVariables false
set_option linter.unusedSimpArgs false
namespace Go.Proofs.Ytopbcamlagdieaa.PStats
open Go.RowKit Go.Proofs.YtopbcamlagdieaaW.PrintWords Go.Proofs.YtopbcamlagdieaaW.PrintLast Go.Proofs.YtopbcamlagdieaaW.PrintMore

/-! ### boarderref01.Last -/
theorem boarderref01_Last_s (b n : Int) (h : Com.fairB b n = true) (k : Nat) (hk : 40 ≤ k) : boarderref01_Last.f k b n = some (b + (Com.sz n : Int) - 1) := by
  unfold boarderref01_Last.f
  obtain ⟨h0, h1, h2, h3, h4⟩ := (Com.fairB_iff b n).1 h
  have := Com.sz_le n
  rw [boarderref01_Size_s n h0 h1 k hk, Option.bind_some, show wrap64 (wrap64 (b + (Com.sz n : Int)) - 1) = b + (Com.sz n : Int) - 1 from by unfold wrap64; omega]

end Go.Proofs.Ytopbcamlagdieaa.PStats
set_option linter.unusedVariables false
set_option linter.unusedSimpArgs false
namespace Go.Proofs.Ytopbcamlagdieaa.PStats
open Go.RowKit Go.Proofs.YtopbcamlagdieaaW.PrintWords Go.Proofs.YtopbcamlagdieaaW.PrintLast Go.Proofs.YtopbcamlagdieaaW.PrintMore

/-! ### boarderref13.lends -/
theorem boarderref13_lends_s (s : Sb) (h : Com.fairB s.f0 s.f1 = true) (a : Int) : Ev (fun k => boarderref13_lends.f k s.f0 s.f1 s.f2 s.f3 s.f4 s.f5 s.f6 a) (decide (InS s a)) := by
  refine ⟨40, fun k hk => ?_⟩
  show boarderref13_lends.f k _ _ _ _ _ _ _ _ = _
  unfold boarderref13_lends.f
  rw [boarderref01_Last_s _ _ h k hk, Option.bind_some]
  by_cases c : a > s.f0
  · rw [if_pos c]; congr 1; exact decide_eq_decide.2 ⟨fun h2 => ⟨c, h2⟩, fun h2 => h2.2⟩
  · rw [if_neg c, decide_eq_false (fun h2 => c h2.1)]

end Go.Proofs.Ytopbcamlagdieaa.PStats
set_option linter.unusedVariables false
set_option linter.unusedSimpArgs false
namespace Go.Proofs.Ytopbcamlagdieaa.PStats
open Go.RowKit Go.Proofs.YtopbcamlagdieaaW.PrintWords Go.Proofs.YtopbcamlagdieaaW.PrintLast Go.Proofs.YtopbcamlagdieaaW.PrintMore

/-! ### boarderref01.Has -/
theorem boarderref01_Has_s (b n a : Int) (k : Nat) (hk : 40 ≤ k) : boarderref01_Has.f k b n a = some (Com.hasB b n a) := by
  unfold boarderref01_Has.f Com.hasB
  rw [boarderref01_Fair_s b n k hk, Option.bind_some]
  by_cases h : Com.fairB b n = true
  · obtain ⟨h0, h1, h2, h3, h4⟩ := (Com.fairB_iff b n).1 h
    have he := Com.fair_end b n h
    have hz := Com.sz_le n
    rw [if_pos h, h, Bool.true_and, boarderref01_Right_s, Option.bind_some]
    by_cases ha : 0 ≤ a ∧ a ≤ 4294967295
    · rw [decide_eq_true ha, if_pos rfl]
      by_cases hb : a ≥ b
      · rw [if_pos hb, boarderref01_Size_s n h0 h1 k hk, Option.bind_some, show wrap64 (b + (Com.sz n : Int)) = b + (Com.sz n : Int) from by unfold wrap64; omega]
        congr 1; exact decide_eq_decide.2 ⟨fun h2 => ⟨hb, h2⟩, fun h2 => h2.2⟩
      · rw [if_neg hb, decide_eq_false (fun h => hb h.1)]
    · rw [decide_eq_false ha, if_neg (by simp), decide_eq_false (by omega)]
  · rw [if_neg h, Bool.eq_false_iff.2 h, Bool.false_and]

end Go.Proofs.Ytopbcamlagdieaa.PStats
set_option linter.unusedVariables false
set_option linter.unusedSimpArgs false
namespace Go.Proofs.Ytopbcamlagdieaa.PStats
open Go.RowKit Go.Proofs.YtopbcamlagdieaaW.PrintWords Go.Proofs.YtopbcamlagdieaaW.PrintLast Go.Proofs.YtopbcamlagdieaaW.PrintMore

/-! ### boarderref13.Places -/
theorem boarderref13_Places_l3 (m j : Nat) (sv b : Int) (nets : List Nt) (s : Sb) (hs : SmS s) (hF : Com.fairB s.f0 s.f1 = true) (hj : j ≤ 1000) {r : Bool}
    (h1 : ((∀ i, (h : i < s.f3.length) → InS s s.f3[i].f1 ∧ s.f3[i].f1 ≠ sv) ∧ (s.f5 ≠ 0 → Com.hasB s.f0 s.f1 s.f5 = true)) → Ev (fun k => boarderref13_Places.l1 k (m : Int) ((j + 1 : Nat) : Int) sv b nets) r)
    (h2 : (¬ ((∀ i, (h : i < s.f3.length) → InS s s.f3[i].f1 ∧ s.f3[i].f1 ≠ sv) ∧ (s.f5 ≠ 0 → Com.hasB s.f0 s.f1 s.f5 = true))) → r = false) :
    Ev (fun k => boarderref13_Places.l3 k (m : Int) (j : Int) 0 sv b nets s.f0 s.f1 s.f2 s.f3 s.f4 s.f5 s.f6) r := by
  have h20 := hs.2.1
  have hw : wrap64 ((j : Int) + 1) = ((j + 1 : Nat) : Int) := by unfold wrap64; omega
  refine loopC (n := s.f3.length) (L := fun k i => boarderref13_Places.l3 k (m : Int) (j : Int) i sv b nets s.f0 s.f1 s.f2 s.f3 s.f4 s.f5 s.f6) (fun i => ∃ h : i < s.f3.length, InS s s.f3[i].f1 ∧ s.f3[i].f1 ≠ sv) false (fun i hi hp r h3 => ?_) (fun i hi hp => ?_) (fun h3 => ?_) (fun h3 => ?_)
  · obtain ⟨_, hp1, hp2⟩ := hp
    have e := boarderref13_lends_s s hF s.f3[i].f1
    rw [decide_eq_true hp1] at e
    refine Ev.step (fun k => ?_) (Ev.bind e (f := fun k t => if t = true then (if s.f3[i].f1 = sv then some false else boarderref13_Places.l3 k (m : Int) (j : Int) ((i + 1 : Nat) : Int) sv b nets s.f0 s.f1 s.f2 s.f3 s.f4 s.f5 s.f6) else some false) (Ev.pos rfl (Ev.neg hp2 h3)))
    show boarderref13_Places.l3 (k + 1) _ _ _ _ _ _ _ _ _ _ _ _ _ = _
    rw [boarderref13_Places.l3, if_pos (by omega), if_pos (by omega), show rd_T65 s.f3 (i : Int) = s.f3[i] from rd_get hi, wrap_next hi (by omega)]
  · have e := boarderref13_lends_s s hF s.f3[i].f1
    refine Ev.step (fun k => ?_) (Ev.bind e (f := fun k t => if t = true then (if s.f3[i].f1 = sv then some false else boarderref13_Places.l3 k (m : Int) (j : Int) ((i + 1 : Nat) : Int) sv b nets s.f0 s.f1 s.f2 s.f3 s.f4 s.f5 s.f6) else some false) ?_)
    · show boarderref13_Places.l3 (k + 1) _ _ _ _ _ _ _ _ _ _ _ _ _ = _
      rw [boarderref13_Places.l3, if_pos (by omega), if_pos (by omega), show rd_T65 s.f3 (i : Int) = s.f3[i] from rd_get hi, wrap_next hi (by omega)]
    · by_cases c : InS s s.f3[i].f1
      · refine Ev.pos (decide_eq_true c) ?_
        by_cases c2 : s.f3[i].f1 = sv
        · exact Ev.pos c2 Ev.some'
        · exact absurd ⟨hi, c, c2⟩ hp
      · exact Ev.neg (by rw [decide_eq_false c]; simp) Ev.some'
  · have h4 : ∀ i, (h : i < s.f3.length) → InS s s.f3[i].f1 ∧ s.f3[i].f1 ≠ sv := fun i hi => (h3 i hi).2
    refine Ev.step (f := fun k => if s.f5 = 0 then boarderref13_Places.l1 k (m : Int) ((j + 1 : Nat) : Int) sv b nets else ((boarderref01_Has.f k s.f0 s.f1 s.f5).bind fun t => if t = true then boarderref13_Places.l1 k (m : Int) ((j + 1 : Nat) : Int) sv b nets else some false)) (fun k => ?_) ?_
    · show boarderref13_Places.l3 (k + 1) _ _ _ _ _ _ _ _ _ _ _ _ _ = _
      rw [boarderref13_Places.l3, if_neg (by omega), hw]
    · by_cases c : s.f5 = 0
      · exact Ev.pos c (h1 ⟨h4, fun h => absurd c h⟩)
      · refine Ev.neg c (Ev.bind (g := fun k => boarderref01_Has.f k s.f0 s.f1 s.f5) (a := Com.hasB s.f0 s.f1 s.f5) ⟨40, fun k hk => boarderref01_Has_s _ _ _ k hk⟩ (f := fun k t => if t = true then boarderref13_Places.l1 k (m : Int) ((j + 1 : Nat) : Int) sv b nets else some false) ?_)
        by_cases c2 : Com.hasB s.f0 s.f1 s.f5 = true
        · exact Ev.pos c2 (h1 ⟨h4, fun _ => c2⟩)
        · rw [h2 (fun h => c2 (h.2 c))]; exact Ev.neg c2 Ev.some'
  · obtain ⟨i, hi, hp⟩ := h3
    exact h2 (fun h => hp ⟨hi, h.1 i hi⟩)
theorem boarderref13_Places_l2 (m j : Nat) (sv b : Int) (nets : List Nt) (s : Sb) (hs : SmS s) (hF : Com.fairB s.f0 s.f1 = true) (hj : j ≤ 1000) {r : Bool}
    (h1 : PlaceS sv s → Ev (fun k => boarderref13_Places.l1 k (m : Int) ((j + 1 : Nat) : Int) sv b nets) r) (h2 : ¬ PlaceS sv s → r = false) :
    Ev (fun k => boarderref13_Places.l2 k (m : Int) (j : Int) 0 sv b nets s.f0 s.f1 s.f2 s.f3 s.f4 s.f5 s.f6) r := by
  have h20 := hs.1
  have E : ∀ i (hi : i < s.f2.length) (r : Bool), ((InS s s.f2[i].f0 ∧ InS s s.f2[i].f1 ∧ ¬ (s.f2[i].f0 ≤ sv ∧ sv ≤ s.f2[i].f1)) → Ev (fun k => boarderref13_Places.l2 k (m : Int) (j : Int) ((i + 1 : Nat) : Int) sv b nets s.f0 s.f1 s.f2 s.f3 s.f4 s.f5 s.f6) r) →
      (¬ (InS s s.f2[i].f0 ∧ InS s s.f2[i].f1 ∧ ¬ (s.f2[i].f0 ≤ sv ∧ sv ≤ s.f2[i].f1)) → r = false) → Ev (fun k => boarderref13_Places.l2 k (m : Int) (j : Int) (i : Int) sv b nets s.f0 s.f1 s.f2 s.f3 s.f4 s.f5 s.f6) r := by
    intro i hi r h3 h4
    refine Ev.step (fun k => ?_) (Ev.bind (boarderref13_lends_s s hF s.f2[i].f0) (f := fun k t => if t = true then ((boarderref13_lends.f k s.f0 s.f1 s.f2 s.f3 s.f4 s.f5 s.f6 s.f2[i].f1).bind fun t2 => if t2 = true then (if sv ≥ s.f2[i].f0 then (if sv ≤ s.f2[i].f1 then some false else boarderref13_Places.l2 k (m : Int) (j : Int) ((i + 1 : Nat) : Int) sv b nets s.f0 s.f1 s.f2 s.f3 s.f4 s.f5 s.f6) else boarderref13_Places.l2 k (m : Int) (j : Int) ((i + 1 : Nat) : Int) sv b nets s.f0 s.f1 s.f2 s.f3 s.f4 s.f5 s.f6) else some false) else some false) ?_)
    · show boarderref13_Places.l2 (k + 1) _ _ _ _ _ _ _ _ _ _ _ _ _ = _
      rw [boarderref13_Places.l2, if_pos (by omega), if_pos (by omega), show rd_T76 s.f2 (i : Int) = s.f2[i] from rd_get hi, wrap_next hi (by omega)]
    · by_cases c : InS s s.f2[i].f0
      · refine Ev.pos (decide_eq_true c) (Ev.bind (boarderref13_lends_s s hF s.f2[i].f1) (f := fun k t2 => if t2 = true then (if sv ≥ s.f2[i].f0 then (if sv ≤ s.f2[i].f1 then some false else boarderref13_Places.l2 k (m : Int) (j : Int) ((i + 1 : Nat) : Int) sv b nets s.f0 s.f1 s.f2 s.f3 s.f4 s.f5 s.f6) else boarderref13_Places.l2 k (m : Int) (j : Int) ((i + 1 : Nat) : Int) sv b nets s.f0 s.f1 s.f2 s.f3 s.f4 s.f5 s.f6) else some false) ?_)
        by_cases c2 : InS s s.f2[i].f1
        · refine Ev.pos (decide_eq_true c2) ?_
          by_cases c3 : sv ≥ s.f2[i].f0
          · refine Ev.pos c3 ?_
            by_cases c4 : sv ≤ s.f2[i].f1
            · rw [h4 (fun h => h.2.2 ⟨c3, c4⟩)]; exact Ev.pos c4 Ev.some'
            · exact Ev.neg c4 (h3 ⟨c, c2, fun h => c4 h.2⟩)
          · exact Ev.neg c3 (h3 ⟨c, c2, fun h => c3 h.1⟩)
        · rw [h4 (fun h => c2 h.2.1)]; exact Ev.neg (by rw [decide_eq_false c2]; simp) Ev.some'
      · rw [h4 (fun h => c h.1)]; exact Ev.neg (by rw [decide_eq_false c]; simp) Ev.some'
  refine loopC (n := s.f2.length) (L := fun k i => boarderref13_Places.l2 k (m : Int) (j : Int) i sv b nets s.f0 s.f1 s.f2 s.f3 s.f4 s.f5 s.f6) (fun i => ∃ h : i < s.f2.length, InS s s.f2[i].f0 ∧ InS s s.f2[i].f1 ∧ ¬ (s.f2[i].f0 ≤ sv ∧ sv ≤ s.f2[i].f1)) false (fun i hi hp r h3 => ?_) (fun i hi hp => ?_) (fun h3 => ?_) (fun h3 => ?_)
  · exact E i hi r (fun _ => h3) (fun h => absurd hp.2 h)
  · exact E i hi false (fun h => absurd ⟨hi, h⟩ hp) (fun _ => rfl)
  · have h4 : ∀ i, (h : i < s.f2.length) → InS s s.f2[i].f0 ∧ InS s s.f2[i].f1 ∧ ¬ (s.f2[i].f0 ≤ sv ∧ sv ≤ s.f2[i].f1) := fun i hi => (h3 i hi).2
    refine Ev.step (fun k => ?_) (boarderref13_Places_l3 m j sv b nets s hs hF hj (r := r) (fun h => h1 ⟨h4, h.1, h.2⟩) (fun h => h2 (fun h5 => h ⟨h5.2.1, h5.2.2⟩)))
    show boarderref13_Places.l2 (k + 1) _ _ _ _ _ _ _ _ _ _ _ _ _ = _
    rw [boarderref13_Places.l2, if_neg (by omega)]
  · obtain ⟨i, hi, hp⟩ := h3
    exact h2 (fun h => hp ⟨hi, h.1 i hi⟩)
theorem boarderref13_Places_l1 (m : Nat) (sv b : Int) (nets : List Nt) (hm : m < nets.length) (h : Sm nets) (hF : ∀ n ∈ nets, ∀ s ∈ n.f0, FairS s) {r : Bool} (h1 : (∀ s ∈ nets[m].f0, PlaceS sv s) → Ev (fun k => boarderref13_Places.l0 k ((m + 1 : Nat) : Int) sv b nets) r) (h2 : (¬ ∀ s ∈ nets[m].f0, PlaceS sv s) → r = false) :
    Ev (fun k => boarderref13_Places.l1 k (m : Int) 0 sv b nets) r := by
  have hN := h.1
  have h10 := (h.2 nets[m] (List.getElem_mem hm)).1
  have eN : rd_T56 nets (m : Int) = nets[m] := rd_get hm
  have E : ∀ i (hi : i < nets[m].f0.length) (r : Bool), (PlaceS sv nets[m].f0[i] → Ev (fun k => boarderref13_Places.l1 k (m : Int) ((i + 1 : Nat) : Int) sv b nets) r) → (¬ PlaceS sv nets[m].f0[i] → r = false) → Ev (fun k => boarderref13_Places.l1 k (m : Int) (i : Int) sv b nets) r := by
    intro i hi r h3 h4
    refine Ev.step (fun k => ?_) (boarderref13_Places_l2 m i sv b nets nets[m].f0[i] ((h.2 _ (List.getElem_mem hm)).2 _ (List.getElem_mem hi)) (hF _ (List.getElem_mem hm) _ (List.getElem_mem hi)).1 (by omega) h3 h4)
    show boarderref13_Places.l1 (k + 1) _ _ _ _ _ = _
    rw [boarderref13_Places.l1, if_pos (by omega), if_pos (by omega), eN, if_pos (by omega), if_pos (by omega), show rd_T60 nets[m].f0 (i : Int) = nets[m].f0[i] from rd_get hi]
  refine loopC (n := nets[m].f0.length) (L := fun k i => boarderref13_Places.l1 k (m : Int) i sv b nets) (fun i => ∃ h : i < nets[m].f0.length, PlaceS sv nets[m].f0[i]) false (fun i hi hp r h3 => ?_) (fun i hi hp => ?_) (fun h3 => ?_) (fun h3 => ?_)
  · exact E i hi r (fun _ => h3) (fun h => absurd hp.2 h)
  · exact E i hi false (fun h => absurd ⟨hi, h⟩ hp) (fun _ => rfl)
  · refine Ev.step (fun k => ?_) (h1 (fun s hs => by obtain ⟨i, hi, rfl⟩ := List.mem_iff_getElem.1 hs; exact (h3 i hi).2))
    show boarderref13_Places.l1 (k + 1) _ _ _ _ _ = _
    rw [boarderref13_Places.l1, if_pos (by omega), if_pos (by omega), eN, if_neg (by omega), wrap_next hm (by omega)]
  · obtain ⟨i, hi, hp⟩ := h3
    exact h2 (fun h => hp ⟨hi, h _ (List.getElem_mem hi)⟩)
open Classical in
theorem boarderref13_Places_s (a b : Int) (nets : List Nt) (h : Sm nets) (hF : ∀ n ∈ nets, ∀ s ∈ n.f0, FairS s) : Ev (fun k => boarderref13_Places.f k a b nets) (decide (∀ n ∈ nets, ∀ s ∈ n.f0, PlaceS a s)) := by
  have hN := h.1
  have E : ∀ i (hi : i < nets.length) (r : Bool), ((∀ s ∈ nets[i].f0, PlaceS a s) → Ev (fun k => boarderref13_Places.l0 k ((i + 1 : Nat) : Int) a b nets) r) → ((¬ ∀ s ∈ nets[i].f0, PlaceS a s) → r = false) → Ev (fun k => boarderref13_Places.l0 k (i : Int) a b nets) r := by
    intro i hi r h3 h4
    refine Ev.step (fun k => ?_) (boarderref13_Places_l1 i a b nets hi h hF h3 h4)
    show boarderref13_Places.l0 (k + 1) _ _ _ _ = _
    rw [boarderref13_Places.l0, if_pos (by omega)]
  refine loopC (n := nets.length) (L := fun k i => boarderref13_Places.l0 k i a b nets) (fun i => ∃ h : i < nets.length, ∀ s ∈ nets[i].f0, PlaceS a s) false (fun i hi hp r h3 => ?_) (fun i hi hp => ?_) (fun h3 => ?_) (fun h3 => ?_)
  · exact E i hi r (fun _ => h3) (fun h => absurd hp.2 h)
  · exact E i hi false (fun h => absurd ⟨hi, h⟩ hp) (fun _ => rfl)
  · rw [decide_eq_true (fun n hn => by obtain ⟨i, hi, rfl⟩ := List.mem_iff_getElem.1 hn; exact (h3 i hi).2)]
    refine Ev.step (f := fun _ => some true) (fun k => ?_) Ev.some'
    show boarderref13_Places.l0 (k + 1) _ _ _ _ = _
    rw [boarderref13_Places.l0, if_neg (by omega)]
  · obtain ⟨i, hi, hp⟩ := h3
    exact decide_eq_false (fun h => hp ⟨hi, h _ (List.getElem_mem hi)⟩)

end Go.Proofs.Ytopbcamlagdieaa.PStats
set_option linter.unusedVariables false
set_option linter.unusedSimpArgs false
namespace Go.Proofs.Ytopbcamlagdieaa.PStats
open Go.RowKit Go.Proofs.YtopbcamlagdieaaW.PrintWords Go.Proofs.YtopbcamlagdieaaW.PrintLast Go.Proofs.YtopbcamlagdieaaW.PrintMore

/-! ### boarderref13.Flat -/
theorem boarderref13_Flat_l1 (a b : Int) (nets : List Nt) (m : Nat) (hm : m < nets.length) (hn : nets.length ≤ 10) (h10 : nets[m].f0.length ≤ 10) : ∀ (d i : Nat) (o1 : List Sb) (o2 : List Int) (r : List Sb × List Int), i + d = nets[m].f0.length → o1.length + d ≤ 1000 → o2.length + d ≤ 1000 →
    Ev (fun k => boarderref13_Flat.l0 k (o1 ++ (subAt (m : Int) i (nets[m].f0.drop i)).map (·.f2)) (o2 ++ (subAt (m : Int) i (nets[m].f0.drop i)).map (·.f0)) ((m + 1 : Nat) : Int) a b nets) r → Ev (fun k => boarderref13_Flat.l1 k o1 o2 (m : Int) (i : Int) a b nets) r := by
  have eN : rd_T56 nets (m : Int) = nets[m] := rd_get hm
  intro d
  induction d with
  | zero =>
    intro i o1 o2 r hi ho1 ho2 h
    rw [List.drop_eq_nil_of_le (by omega), subAt, List.map_nil, List.map_nil, List.append_nil, List.append_nil] at h
    refine Ev.step (fun k => ?_) h
    show boarderref13_Flat.l1 (k + 1) _ _ _ _ _ _ _ = _
    rw [boarderref13_Flat.l1, if_pos (by omega), if_pos (by omega), eN, if_neg (by omega), wrap_next hm (by omega)]
  | succ d ih =>
    intro i o1 o2 r hi ho1 ho2 h
    have hl : i < nets[m].f0.length := by omega
    refine Ev.step (fun k => ?_) (ih (i + 1) (o1 ++ [nets[m].f0[i]]) (o2 ++ [(m : Int)]) r (by omega) (by rw [List.length_append, List.length_singleton]; omega) (by rw [List.length_append, List.length_singleton]; omega) ?_)
    · show boarderref13_Flat.l1 (k + 1) _ _ _ _ _ _ _ = _
      rw [boarderref13_Flat.l1, if_pos (by omega), if_pos (by omega), eN, if_pos (by omega), if_pos (by omega), if_pos (by omega), if_pos (by omega), show rd_T60 nets[m].f0 (i : Int) = nets[m].f0[i] from rd_get hl, wrap_next hl (by omega)]
    · rw [List.append_assoc, List.singleton_append, List.append_assoc, List.singleton_append]
      rwa [List.drop_eq_getElem_cons hl, subAt, List.map_cons, List.map_cons] at h
theorem boarderref13_Flat_l0 (a b : Int) (nets : List Nt) (hn : nets.length ≤ 10) (hx : ∀ x ∈ nets, x.f0.length ≤ 10) : ∀ (d m : Nat) (o1 : List Sb) (o2 : List Int), m + d = nets.length → o1.length + 10 * d ≤ 500 → o2.length + 10 * d ≤ 500 →
    Ev (fun k => boarderref13_Flat.l0 k o1 o2 (m : Int) a b nets) (o1 ++ (spotsFrom m (nets.drop m)).map (·.f2), o2 ++ (spotsFrom m (nets.drop m)).map (·.f0)) := by
  intro d
  induction d with
  | zero =>
    intro m o1 o2 hm ho1 ho2
    rw [List.drop_eq_nil_of_le (by omega), spotsFrom, List.map_nil, List.map_nil, List.append_nil, List.append_nil]
    refine Ev.step (f := fun _ => some (o1, o2)) (fun k => ?_) Ev.some'
    show boarderref13_Flat.l0 (k + 1) _ _ _ _ _ _ = _
    rw [boarderref13_Flat.l0, if_neg (by omega)]
  | succ d ih =>
    intro m o1 o2 hm ho1 ho2
    have hl : m < nets.length := by omega
    have h10 := hx nets[m] (List.getElem_mem hl)
    rw [List.drop_eq_getElem_cons hl, spotsFrom, List.map_append, List.map_append, ← List.append_assoc, ← List.append_assoc]
    refine Ev.step (fun k => ?_) (boarderref13_Flat_l1 a b nets m hl hn h10 nets[m].f0.length 0 o1 o2 _ (by omega) (by omega) (by omega) ?_)
    · show boarderref13_Flat.l0 (k + 1) _ _ _ _ _ _ = _
      rw [boarderref13_Flat.l0, if_pos (by omega)]
      rfl
    · rw [List.drop_zero]
      exact ih (m + 1) _ _ (by omega) (by rw [List.length_append, List.length_map, subAt_len]; omega) (by rw [List.length_append, List.length_map, subAt_len]; omega)
theorem boarderref13_Flat_s (a b : Int) (nets : List Nt) (h : Sm nets) : Ev (fun k => boarderref13_Flat.f k a b nets) ((spotsL nets).map (·.f2), (spotsL nets).map (·.f0)) := by
  have e := boarderref13_Flat_l0 a b nets h.1 (fun x hx => (h.2 x hx).1) nets.length 0 [] [] (by omega) (by have := h.1; simp; omega) (by have := h.1; simp; omega)
  rw [List.drop_zero, List.nil_append, List.nil_append] at e
  exact e

end Go.Proofs.Ytopbcamlagdieaa.PStats
set_option linter.unusedVariables false
set_option linter.unusedSimpArgs false
namespace Go.Proofs.Ytopbcamlagdieaa.PStats
open Go.RowKit Go.Proofs.YtopbcamlagdieaaW.PrintWords Go.Proofs.YtopbcamlagdieaaW.PrintLast Go.Proofs.YtopbcamlagdieaaW.PrintMore

/-! ### boarderref13.Pooled -/
open Classical in
theorem boarderref13_Pooled_s (s : Sb) (hs : SmS s) : Ev (fun k => boarderref13_Pooled.f k s.f0 s.f1 s.f2 s.f3 s.f4 s.f5 s.f6) (decide (PooledP s)) := by
  have h20 := hs.1
  have E1 : ∀ i (hi : i < s.f2.length) (r : Bool), ((∀ j, (hj : j < i) → ¬ OverP s.f2[i] s.f2[j]) → Ev (fun k => boarderref13_Pooled.l0 k ((i + 1 : Nat) : Int) s.f0 s.f1 s.f2 s.f3 s.f4 s.f5 s.f6) r) → ((¬ ∀ j, (hj : j < i) → ¬ OverP s.f2[i] s.f2[j]) → r = true) → Ev (fun k => boarderref13_Pooled.l1 k (i : Int) 0 s.f0 s.f1 s.f2 s.f3 s.f4 s.f5 s.f6) r := by
    intro i hi r h1 h2
    have eI : rd_T76 s.f2 (i : Int) = s.f2[i] := rd_get hi
    have E : ∀ j (hj : j < i) (r : Bool), (¬ OverP s.f2[i] s.f2[j] → Ev (fun k => boarderref13_Pooled.l1 k (i : Int) ((j + 1 : Nat) : Int) s.f0 s.f1 s.f2 s.f3 s.f4 s.f5 s.f6) r) → (OverP s.f2[i] s.f2[j] → r = true) → Ev (fun k => boarderref13_Pooled.l1 k (i : Int) (j : Int) s.f0 s.f1 s.f2 s.f3 s.f4 s.f5 s.f6) r := by
      intro j hj r h3 h4
      have hj2 : j < s.f2.length := by omega
      refine Ev.step (f := fun k => if s.f2[i].f0 ≤ s.f2[j].f1 then (if s.f2[j].f0 ≤ s.f2[i].f1 then some true else boarderref13_Pooled.l1 k (i : Int) ((j + 1 : Nat) : Int) s.f0 s.f1 s.f2 s.f3 s.f4 s.f5 s.f6) else boarderref13_Pooled.l1 k (i : Int) ((j + 1 : Nat) : Int) s.f0 s.f1 s.f2 s.f3 s.f4 s.f5 s.f6) (fun k => ?_) ?_
      · show boarderref13_Pooled.l1 (k + 1) _ _ _ _ _ _ _ _ _ = _
        rw [boarderref13_Pooled.l1, if_pos (by omega), if_pos (by omega), if_pos (by omega), if_pos (by omega), if_pos (by omega), eI, show rd_T76 s.f2 (j : Int) = s.f2[j] from rd_get hj2, wrap_next hj (by omega)]
      · by_cases c1 : s.f2[i].f0 ≤ s.f2[j].f1
        · refine Ev.pos c1 ?_
          by_cases c2 : s.f2[j].f0 ≤ s.f2[i].f1
          · rw [h4 ⟨c1, c2⟩]; exact Ev.pos c2 Ev.some'
          · exact Ev.neg c2 (h3 (fun h => c2 h.2))
        · exact Ev.neg c1 (h3 (fun h => c1 h.1))
    refine loopC (n := i) (L := fun k j => boarderref13_Pooled.l1 k (i : Int) j s.f0 s.f1 s.f2 s.f3 s.f4 s.f5 s.f6) (fun j => ∃ h : j < i, ¬ OverP s.f2[i] s.f2[j]) true (fun j hj hp r h3 => ?_) (fun j hj hp => ?_) (fun h3 => ?_) (fun h3 => ?_)
    · exact E j hj r (fun _ => h3) (fun h => absurd h hp.2)
    · exact E j hj true (fun h => absurd ⟨hj, h⟩ hp) (fun _ => rfl)
    · refine Ev.step (fun k => ?_) (h1 (fun j hj => (h3 j hj).2))
      show boarderref13_Pooled.l1 (k + 1) _ _ _ _ _ _ _ _ _ = _
      rw [boarderref13_Pooled.l1, if_neg (by omega), wrap_next hi (by omega)]
    · obtain ⟨j, hj, hp⟩ := h3
      exact h2 (fun h => hp ⟨hj, h j hj⟩)
  have E0 : ∀ i (hi : i < s.f2.length) (r : Bool), ((∀ j, (hj : j < i) → ¬ OverP s.f2[i] s.f2[j]) → Ev (fun k => boarderref13_Pooled.l0 k ((i + 1 : Nat) : Int) s.f0 s.f1 s.f2 s.f3 s.f4 s.f5 s.f6) r) → ((¬ ∀ j, (hj : j < i) → ¬ OverP s.f2[i] s.f2[j]) → r = true) → Ev (fun k => boarderref13_Pooled.l0 k (i : Int) s.f0 s.f1 s.f2 s.f3 s.f4 s.f5 s.f6) r := by
    intro i hi r h1 h2
    refine Ev.step (fun k => ?_) (E1 i hi r h1 h2)
    show boarderref13_Pooled.l0 (k + 1) _ _ _ _ _ _ _ _ = _
    rw [boarderref13_Pooled.l0, if_pos (by omega)]
  refine loopC (n := s.f2.length) (L := fun k i => boarderref13_Pooled.l0 k i s.f0 s.f1 s.f2 s.f3 s.f4 s.f5 s.f6) (fun i => ∃ h : i < s.f2.length, ∀ j, (hj : j < i) → ¬ OverP s.f2[i] s.f2[j]) true (fun i hi hp r h3 => ?_) (fun i hi hp => ?_) (fun h3 => ?_) (fun h3 => ?_)
  · exact E0 i hi r (fun _ => h3) (fun h => absurd hp.2 h)
  · exact E0 i hi true (fun h => absurd ⟨hi, h⟩ hp) (fun _ => rfl)
  · rw [decide_eq_false (show ¬ PooledP s by rintro ⟨i, j, hi, hj, ho⟩; exact (h3 i hi).2 j hj ho)]
    refine Ev.step (f := fun _ => some false) (fun k => ?_) Ev.some'
    show boarderref13_Pooled.l0 (k + 1) _ _ _ _ _ _ _ _ = _
    rw [boarderref13_Pooled.l0, if_neg (by omega)]
  · obtain ⟨i, hi, hp⟩ := h3
    refine decide_eq_true ?_
    by_cases c : PooledP s
    · exact c
    · exact absurd ⟨hi, fun j hj ho => c ⟨i, j, hi, hj, ho⟩⟩ hp

end Go.Proofs.Ytopbcamlagdieaa.PStats
