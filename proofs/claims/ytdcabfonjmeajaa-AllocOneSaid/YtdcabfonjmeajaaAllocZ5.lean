/- What this claim rests on, part 5: abstract values, walks of the code over them, what the functions come to; each under its theorem's own conditions. -/
import Derived.Laws.BitsLemmas
import Derived.Laws.Entries
import Derived.RowKit
import Derived.Test.YtdcabfonjmeajaaAllocZ4
set_option linter.unusedVariables false
set_option linter.unusedSimpArgs false
namespace Go.Proofs.Ytdcabfonjmeajaa.PAlloc
open Go.RowKit Go.Proofs.YtdcabfonjmeajaaW.PrintWords Go.Proofs.YtdcabfonjmeajaaW.PrintLast Go.Proofs.YtdcabfonjmeajaaW.PrintMore Go.Proofs.Ytdcabfonjmeajaa.Abs
/-! ### boarderlaw13_Plain: function 39 -/
def boarderlaw13_Plain.f  : Option (Int × Int × (List (S41))) := some (167772161, 300, (([(⟨(([(⟨167772160, 24, (([(⟨167772170, 167772180⟩ : S62)] : List (S62))), (([(⟨(⟨#[105, 48, 49]⟩ : ByteArray), 167772165⟩ : S59)] : List (S59))), 1, 167772161, 600⟩ : S57)] : List (S57)))⟩ : S41)] : List (S41))))
noncomputable def boarderlaw13_Plain.cx : Cx := ⟨Try.prog, tys, glo, 12, Try.f39, [.cell 0 24]⟩
set_option maxHeartbeats 16000000 in
set_option maxRecDepth 100000 in
theorem boarderlaw13_Plain.ok {r0 : Int} {r1 : Int} {r2 : (List (S41))} (H : boarderlaw13_Plain.f = some (r0, r1, r2)) : CallOK Try.prog glo 39 [] (.agg [.imm (.int .i64 r0), .imm (.int .i64 r1), vS41 r2]) := by
  unfold boarderlaw13_Plain.f at H
  refine CallOK.of (c := boarderlaw13_Plain.cx) Try.func39 (show (boarderlaw13_Plain.cx).fn.body = some _ from rfl) rfl rfl (Nat.le_of_ble_eq_true rfl) ?_
  repeat' (first
    | ((with_reducible replace H := some_ite H); obtain ⟨_, H⟩ := H)
    | ((with_reducible apply ROps.pure); (case hop => rfl); (case hw => rfl); (case hdst => rfl); (case hd => rfl))
    | (with_reducible apply ROps.nil)
    | (with_reducible apply Runs.seq)
    | (with_reducible apply Runs.region tysOK)
    | (with_reducible apply Runs.scope)
    | (with_reducible apply Runs.inScope)
    | (with_reducible apply Runs.label)
    | ((with_reducible apply ROps.store); (case hop => rfl); (all_goals try rfl))
    | ((with_reducible apply ROps.alloc); (case hop => rfl); (all_goals try rfl))
    | ((with_reducible apply ROps.lit); (case hop => rfl); (case hti => rfl); (case hsz => rfl); (case hl => rfl); (case hrf => rfl); (all_goals try rfl))
    | ((with_reducible apply Runs.retP tysOK); (case hrs => rfl); (case h => rfl); (case hr => (cases H; exact refX)); (case hx => rfl))
    | exact leRX)
end Go.Proofs.Ytdcabfonjmeajaa.PAlloc
set_option linter.unusedVariables false
set_option linter.unusedSimpArgs false
namespace Go.Proofs.Ytdcabfonjmeajaa.PAlloc
open Go.RowKit Go.Proofs.YtdcabfonjmeajaaW.PrintWords Go.Proofs.YtdcabfonjmeajaaW.PrintLast Go.Proofs.YtdcabfonjmeajaaW.PrintMore Go.Proofs.Ytdcabfonjmeajaa.Abs
/-! ### boarderlaw15_knows: function 29 -/
def boarderlaw15_knows.f (k : Nat) : Option (Bool) := ((boarderlaw13_Plain.f).bind fun b1 => ((alloc_Choose.f k b1.1 b1.2.1 b1.2.2 ([] : List (S47)) 0 (⟨#[105, 48, 49]⟩ : ByteArray) 0 5).bind fun b2 => ((alloc_Choose.f k b1.1 b1.2.1 b1.2.2 ([] : List (S47)) 0 (⟨#[105, 48, 50]⟩ : ByteArray) 0 5).bind fun b3 => ((alloc_Choose.f k b1.1 b1.2.1 b1.2.2 ([] : List (S47)) 0 (⟨#[105, 48, 50]⟩ : ByteArray) 167772175 5).bind fun b4 => (if b2.1 = 167772165 then (if b2.2 = true then (if b3.1 = 167772170 then (if b3.2 = true then (if b4.1 = 167772175 then (if b4.2 = true then ((alloc_May.f k b1.1 b1.2.1 b1.2.2 ([] : List (S47)) 0 (⟨#[105, 48, 49]⟩ : ByteArray) b2.1 5).bind fun t5 => (if t5 = true then ((alloc_May.f k b1.1 b1.2.1 b1.2.2 ([] : List (S47)) 0 (⟨#[105, 48, 50]⟩ : ByteArray) b2.1 5).bind fun t6 => (some (!t6))) else (some false))) else (some false)) else (some false)) else (some false)) else (some false)) else (some false)) else (some false))))))
noncomputable def boarderlaw15_knows.cx : Cx := ⟨Try.prog, tys, glo, 54, Try.f29, [.tmp 0]⟩
def boarderlaw15_knows.Sf (r0 : Bool) (k : Nat) : Prop := boarderlaw15_knows.f k = some r0 → Runs boarderlaw15_knows.cx (Pur (.imm (.bool r0))) [.code (bodyOf Try.f29)] (frame0 []) []
set_option maxHeartbeats 64000000 in
set_option maxRecDepth 100000 in
theorem boarderlaw15_knows.seg (r0 : Bool) (k : Nat) : boarderlaw15_knows.Sf r0 k := by
  intro H
  unfold boarderlaw15_knows.f at H
  try dsimp only at H
  repeat' (first
    | ((with_reducible replace H := some_ite H); obtain ⟨_, H⟩ := H)
    | (with_reducible replace H := true_ite H)
    | (with_reducible replace H := false_ite H)
    | ((with_reducible have hb := bool_ite H); clear H; rcases hb with ⟨e_, H⟩ | ⟨e_, H⟩ <;> subst e_)
    | ((with_reducible have hb := bool_iteN H); clear H; rcases hb with ⟨e_, H⟩ | ⟨e_, H⟩ <;> subst e_)
    | ((with_reducible apply ROps.pure); (case hop => rfl); (case hw => rfl); (case hdst => rfl); (case hd => rfl))
    | (with_reducible apply ROps.nil)
    | (with_reducible apply Runs.seq)
    | (with_reducible apply Runs.region tysOK)
    | (with_reducible apply Runs.scope)
    | (with_reducible apply Runs.inScope)
    | (with_reducible apply Runs.label)
    | ((with_reducible apply ROps.store); (case hop => rfl); (all_goals try rfl))
    | ((with_reducible apply ROps.cmp); (case hop => exact cmpX); (case hw => rfl); (case hdst => rfl); (case hd => rfl); (all_goals (intro h; first | (replace H := ite_pos_ h H) | (replace H := ite_neg_ h H) | (replace H := ite_pos_ (Decidable.not_not.1 h) H) | ((try simp only [rdOf] at h); (try simp only [rdOf] at H); (rw [if_pos h] at H)) | ((try simp only [rdOf] at h); (try simp only [rdOf] at H); (rw [if_neg h] at H)) | contradiction | skip)))
    | ((with_reducible apply ROps.val); (case hop => exact valX); (case hw => rfl); (case hdst => rfl); (case hd => rfl))
    | ((with_reducible apply ROps.alloc); (case hop => rfl); (all_goals try rfl))
    | ((with_reducible apply ROps.off); (case hw => rfl); (case hdst => rfl); (case hd => rfl))
    | ((with_reducible have hB : (alloc_Choose.f _ _ _ _ _ _ _ _ _).bind _ = some _ := H); clear hB; (replace H := bind_some' H); (obtain ⟨⟨t_0, t_1⟩, H1, H⟩ := H); (try dsimp only at H); (with_reducible apply ROps.call); (case hop => rfl); (case hc => exact alloc_Choose.ok H1); (case ha => exact argsX); (case hw => rfl); (case hdst => rfl); (case hd => rfl))
    | ((with_reducible have hB : (alloc_May.f _ _ _ _ _ _ _ _ _).bind _ = some _ := H); clear hB; (replace H := bind_some' H); (obtain ⟨t_, H1, H⟩ := H); (try dsimp only at H); (with_reducible apply ROps.call); (case hop => rfl); (case hc => exact alloc_May.ok H1); (case ha => exact argsX); (case hw => rfl); (case hdst => rfl); (case hd => rfl))
    | ((with_reducible have hB : (boarderlaw13_Plain.f).bind _ = some _ := H); clear hB; (replace H := bind_some' H); (obtain ⟨⟨t_0, t_1, t_2⟩, H1, H⟩ := H); (try dsimp only at H); (with_reducible apply ROps.call); (case hop => rfl); (case hc => exact boarderlaw13_Plain.ok H1); (case ha => exact argsX); (case hw => rfl); (case hdst => rfl); (case hd => rfl))
    | ((with_reducible apply Runs.retP tysOK); (case hrs => rfl); (case h => rfl); (case hr => (cases H; exact refX)); (case hx => rfl))
    | exact leRX
    | (refine Runs.code_eq (p' := .seq _ _) rfl ?_)
    | (refine Runs.code_eq (p' := .region _ _ _) rfl ?_)
    | (refine Runs.code_eq (p' := .cond _ _ _) rfl ?_)
    | (refine Runs.code_eq (p' := .block _ _) rfl ?_)
    | (refine Runs.code_eq (p' := .loop _) rfl ?_)
    | (refine Runs.code_eq (p' := .exit _) rfl ?_)
    | (refine Runs.code_eq (p' := .ret) rfl ?_)
    | (refine Runs.code_eq (p' := .skip) rfl ?_)
    | (refine Runs.code_eq (p' := .label _) rfl ?_)
    | (refine Runs.code_eq (p' := .scope _) rfl ?_))
theorem boarderlaw15_knows.ok {k : Nat} {r0 : Bool} (H : boarderlaw15_knows.f k = some r0) : CallOK Try.prog glo 29 [] (.imm (.bool r0)) :=
  CallOK.of (c := boarderlaw15_knows.cx) (p := bodyOf Try.f29) Try.func29 rfl rfl rfl (Nat.le_of_ble_eq_true rfl) (boarderlaw15_knows.seg r0 k H)
end Go.Proofs.Ytdcabfonjmeajaa.PAlloc
set_option linter.unusedVariables false
set_option linter.unusedSimpArgs false
namespace Go.Proofs.Ytdcabfonjmeajaa.PAlloc
open Go.RowKit Go.Proofs.YtdcabfonjmeajaaW.PrintWords Go.Proofs.YtdcabfonjmeajaaW.PrintLast Go.Proofs.YtdcabfonjmeajaaW.PrintMore Go.Proofs.Ytdcabfonjmeajaa.Abs
/-! ### boarderref01_Right: function 70 -/
def boarderref01_Right.f (a0 : Int) : Option (Bool) := if a0 ≥ 0 then (some (decide (a0 < 4294967296))) else (some false)
noncomputable def boarderref01_Right.cx : Cx := ⟨Try.prog, tys, glo, 9, Try.f70, [.tmp 2]⟩
set_option maxHeartbeats 16000000 in
set_option maxRecDepth 100000 in
theorem boarderref01_Right.ok {a0 : Int} {r0 : Bool} (H : boarderref01_Right.f a0 = some r0) : CallOK Try.prog glo 70 [.imm (.int .i64 a0)] (.imm (.bool r0)) := by
  unfold boarderref01_Right.f at H
  refine CallOK.of (c := boarderref01_Right.cx) Try.func70 (show (boarderref01_Right.cx).fn.body = some _ from rfl) rfl rfl (Nat.le_of_ble_eq_true rfl) ?_
  repeat' (first
    | ((with_reducible replace H := some_ite H); obtain ⟨_, H⟩ := H)
    | (with_reducible replace H := true_ite H)
    | (with_reducible replace H := false_ite H)
    | ((with_reducible have hb := bool_ite H); clear H; rcases hb with ⟨e_, H⟩ | ⟨e_, H⟩ <;> subst e_)
    | ((with_reducible apply ROps.pure); (case hop => rfl); (case hw => rfl); (case hdst => rfl); (case hd => rfl))
    | (with_reducible apply ROps.nil)
    | (with_reducible apply Runs.seq)
    | (with_reducible apply Runs.region tysOK)
    | (with_reducible apply Runs.scope)
    | (with_reducible apply Runs.inScope)
    | (with_reducible apply Runs.label)
    | ((with_reducible apply ROps.cmp); (case hop => exact cmpX); (case hw => rfl); (case hdst => rfl); (case hd => rfl); (all_goals (intro h; first | (replace H := ite_pos_ h H) | (replace H := ite_neg_ h H) | (replace H := dec_pos h H) | (replace H := dec_neg h H) | (replace H := dec_t h H) | (replace H := dec_f h H) | (replace H := ite_pos_ (Decidable.not_not.1 h) H) | ((try simp only [rdOf] at h); (try simp only [rdOf] at H); (rw [decide_eq_true h] at H)) | ((try simp only [rdOf] at h); (try simp only [rdOf] at H); (rw [decide_eq_false h] at H)) | ((try simp only [rdOf] at h); (try simp only [rdOf] at H); (rw [if_pos h] at H)) | ((try simp only [rdOf] at h); (try simp only [rdOf] at H); (rw [if_neg h] at H)) | contradiction | skip)))
    | ((with_reducible apply ROps.off); (case hw => rfl); (case hdst => rfl); (case hd => rfl))
    | ((with_reducible apply Runs.retP tysOK); (case hrs => rfl); (case h => rfl); (case hr => (cases H; exact refX)); (case hx => rfl))
    | exact leRX)
end Go.Proofs.Ytdcabfonjmeajaa.PAlloc
set_option linter.unusedVariables false
set_option linter.unusedSimpArgs false
namespace Go.Proofs.Ytdcabfonjmeajaa.PAlloc
open Go.RowKit Go.Proofs.YtdcabfonjmeajaaW.PrintWords Go.Proofs.YtdcabfonjmeajaaW.PrintLast Go.Proofs.YtdcabfonjmeajaaW.PrintMore Go.Proofs.Ytdcabfonjmeajaa.Abs
/-! ### boarderref07_Right: function 63 -/
def boarderref07_Right.f (a0 : ByteArray) : Option (Bool) := if (a0.size : Int) < 3 then (some false) else (if 0 < (a0.size : Int) then (if (bt a0 0) = 105 then (if (a0.size : Int) ≤ 256 then (some true) else (if (bt a0 0) = 104 then (some (decide ((a0.size : Int) ≤ 18))) else (some false))) else (if (bt a0 0) = 104 then (some (decide ((a0.size : Int) ≤ 18))) else (some false))) else (none))
noncomputable def boarderref07_Right.cx : Cx := ⟨Try.prog, tys, glo, 24, Try.f63, [.tmp 2]⟩
set_option maxHeartbeats 16000000 in
set_option maxRecDepth 100000 in
theorem boarderref07_Right.ok {a0 : ByteArray} {r0 : Bool} (H : boarderref07_Right.f a0 = some r0) : CallOK Try.prog glo 63 [.imm (.string a0)] (.imm (.bool r0)) := by
  unfold boarderref07_Right.f at H
  refine CallOK.of (c := boarderref07_Right.cx) Try.func63 (show (boarderref07_Right.cx).fn.body = some _ from rfl) rfl rfl (Nat.le_of_ble_eq_true rfl) ?_
  repeat' (first
    | ((with_reducible replace H := some_ite H); obtain ⟨_, H⟩ := H)
    | (with_reducible replace H := true_ite H)
    | (with_reducible replace H := false_ite H)
    | ((with_reducible have hb := bool_ite H); clear H; rcases hb with ⟨e_, H⟩ | ⟨e_, H⟩ <;> subst e_)
    | ((with_reducible apply ROps.pure); (case hop => rfl); (case hw => rfl); (case hdst => rfl); (case hd => rfl))
    | (with_reducible apply ROps.nil)
    | (with_reducible apply Runs.seq)
    | (with_reducible apply Runs.region tysOK)
    | (with_reducible apply Runs.skip)
    | (with_reducible apply Runs.scope)
    | (with_reducible apply Runs.inScope)
    | (with_reducible apply Runs.label)
    | ((with_reducible apply Runs.condT); (case ho => rfl))
    | ((with_reducible apply Runs.condF); (case ho => rfl))
    | ((with_reducible apply ROps.cmp); (case hop => exact cmpX); (case hw => rfl); (case hdst => rfl); (case hd => rfl); (all_goals (intro h; first | (replace H := ite_pos_ h H) | (replace H := ite_neg_ h H) | (replace H := dec_pos h H) | (replace H := dec_neg h H) | (replace H := dec_t h H) | (replace H := dec_f h H) | (replace H := beq_pos h H) | (replace H := beq_neg h H) | (replace H := beq_tt h H) | (replace H := beq_ff h H) | (replace H := ite_pos_ (Decidable.not_not.1 h) H) | (replace H := beq_pos (Decidable.not_not.1 h) H) | (replace H := beq_tt (Decidable.not_not.1 h) H) | ((try simp only [rdOf] at h); (try simp only [rdOf] at H); (rw [decide_eq_true h] at H)) | ((try simp only [rdOf] at h); (try simp only [rdOf] at H); (rw [decide_eq_false h] at H)) | ((try simp only [rdOf] at h); (try simp only [rdOf] at H); (rw [beq_t h] at H)) | ((try simp only [rdOf] at h); (try simp only [rdOf] at H); (rw [beq_f h] at H)) | ((try simp only [rdOf] at h); (try simp only [rdOf] at H); (rw [bne_t h] at H)) | ((try simp only [rdOf] at h); (try simp only [rdOf] at H); (rw [bne_f h] at H)) | ((try simp only [rdOf] at h); (try simp only [rdOf] at H); (rw [beq_t (Decidable.not_not.1 h)] at H)) | ((try simp only [rdOf] at h); (try simp only [rdOf] at H); (rw [bne_f (Decidable.not_not.1 h)] at H)) | ((try simp only [rdOf] at h); (try simp only [rdOf] at H); (rw [if_pos h] at H)) | ((try simp only [rdOf] at h); (try simp only [rdOf] at H); (rw [if_neg h] at H)) | contradiction | skip)))
    | ((with_reducible apply ROps.val); (case hop => exact valX); (case hw => rfl); (case hdst => rfl); (case hd => rfl))
    | ((with_reducible apply ROps.off); (case hw => rfl); (case hdst => rfl); (case hd => rfl))
    | ((with_reducible apply Runs.retP tysOK); (case hrs => rfl); (case h => rfl); (case hr => (cases H; exact refX)); (case hx => rfl))
    | exact leRX)
end Go.Proofs.Ytdcabfonjmeajaa.PAlloc
set_option linter.unusedVariables false
set_option linter.unusedSimpArgs false
namespace Go.Proofs.Ytdcabfonjmeajaa.PAlloc
open Go.RowKit Go.Proofs.YtdcabfonjmeajaaW.PrintWords Go.Proofs.YtdcabfonjmeajaaW.PrintLast Go.Proofs.YtdcabfonjmeajaaW.PrintMore Go.Proofs.Ytdcabfonjmeajaa.Abs
/-! ### boarderref01_Size: function 78 -/
def boarderref01_Size.l0 : Nat → Int → Int → Option (Int)
  | 0, _, _ => none
  | k + 1, x3, x4 => if x4 < 32 then (boarderref01_Size.l0 k (wrap64 (x3 * 2)) (wrap64 (x4 + 1))) else (some x3)
def boarderref01_Size.f (k : Nat) (a0 : Int) : Option (Int) := boarderref01_Size.l0 k 1 a0
noncomputable def boarderref01_Size.cx : Cx := ⟨Try.prog, tys, glo, 13, Try.f78, [.tmp 2]⟩
set_option maxHeartbeats 16000000 in
set_option maxRecDepth 100000 in
theorem boarderref01_Size.ok {k : Nat} {a0 : Int} {r0 : Int} (H : boarderref01_Size.f k a0 = some r0) : CallOK Try.prog glo 78 [.imm (.int .i64 a0)] (.imm (.int .i64 r0)) := by
  unfold boarderref01_Size.f at H
  refine CallOK.of (c := boarderref01_Size.cx) Try.func78 (show (boarderref01_Size.cx).fn.body = some _ from rfl) rfl rfl (Nat.le_of_ble_eq_true rfl) ?_
  repeat' (first
    | ((with_reducible replace H := some_ite H); obtain ⟨_, H⟩ := H)
    | (with_reducible replace H := true_ite H)
    | (with_reducible replace H := false_ite H)
    | ((with_reducible have hb := bool_ite H); clear H; rcases hb with ⟨e_, H⟩ | ⟨e_, H⟩ <;> subst e_)
    | ((with_reducible apply ROps.pure); (case hop => rfl); (case hw => rfl); (case hdst => rfl); (case hd => rfl))
    | (with_reducible apply ROps.nil)
    | (with_reducible apply Runs.seq)
    | (with_reducible apply Runs.region tysOK)
    | (with_reducible apply Runs.block)
    | (with_reducible apply Runs.skip)
    | (with_reducible apply Runs.inBlock)
    | (with_reducible apply Runs.scope)
    | (with_reducible apply Runs.inScope)
    | (with_reducible apply Runs.label)
    | ((with_reducible apply Runs.condT); (case ho => rfl))
    | ((with_reducible apply Runs.condF); (case ho => rfl))
    | ((with_reducible apply Runs.exit); (case he => rfl))
    | ((with_reducible apply ROps.cmp); (case hop => exact cmpX); (case hw => rfl); (case hdst => rfl); (case hd => rfl); (all_goals (intro h; first | (replace H := ite_pos_ h H) | (replace H := ite_neg_ h H) | (replace H := dec_pos h H) | (replace H := dec_neg h H) | (replace H := dec_t h H) | (replace H := dec_f h H) | (replace H := ite_pos_ (Decidable.not_not.1 h) H) | ((try simp only [rdOf] at h); (try simp only [rdOf] at H); (rw [decide_eq_true h] at H)) | ((try simp only [rdOf] at h); (try simp only [rdOf] at H); (rw [decide_eq_false h] at H)) | ((try simp only [rdOf] at h); (try simp only [rdOf] at H); (rw [if_pos h] at H)) | ((try simp only [rdOf] at h); (try simp only [rdOf] at H); (rw [if_neg h] at H)) | contradiction | skip)))
    | ((with_reducible apply ROps.val); (case hop => exact valX); (case hw => rfl); (case hdst => rfl); (case hd => rfl))
    | ((with_reducible apply Runs.loopK2 ((fun kk (v0_3 : Int) (v0_4 : Int) => boarderref01_Size.l0 kk v0_3 v0_4)) [] [] (fun b v0_3 v0_4 => [(3, .imm (.int .i64 v0_3)), (4, .imm (.int .i64 v0_4))]) (fun v0_3 v0_4 => []) _ _ _ [] H); (case h0 => intros; rfl); (any_goals (clear H; intro k0 hk0 ih0 v0_3 v0_4 H; replace H : boarderref01_Size.l0 (k0 + 1) v0_3 v0_4 = some _ := H; rw [boarderref01_Size.l0] at H)))
    | (with_reducible apply ih0 _ _ _ [] _ _ (by omega) H)
    | ((with_reducible apply Runs.retP tysOK); (case hrs => rfl); (case h => rfl); (case hr => (cases H; exact refX)); (case hx => rfl))
    | exact leRX)
end Go.Proofs.Ytdcabfonjmeajaa.PAlloc
set_option linter.unusedVariables false
set_option linter.unusedSimpArgs false
namespace Go.Proofs.Ytdcabfonjmeajaa.PAlloc
open Go.RowKit Go.Proofs.YtdcabfonjmeajaaW.PrintWords Go.Proofs.YtdcabfonjmeajaaW.PrintLast Go.Proofs.YtdcabfonjmeajaaW.PrintMore Go.Proofs.Ytdcabfonjmeajaa.Abs
/-! ### boarderref01_Fair: function 77 -/
def boarderref01_Fair.f (k : Nat) (a0 : Int) (a1 : Int) : Option (Bool) := if a1 ≥ 0 then (if a1 ≤ 32 then ((boarderref01_Right.f a0).bind fun t323 => (if t323 = true then ((boarderref01_Size.f k a1).bind fun t324 => (if t324 = 0 then (none) else (some ((Int.tmod a0 t324) == 0)))) else (some false))) else (some false)) else (some false)
noncomputable def boarderref01_Fair.cx : Cx := ⟨Try.prog, tys, glo, 22, Try.f77, [.tmp 4]⟩
set_option maxHeartbeats 16000000 in
set_option maxRecDepth 100000 in
theorem boarderref01_Fair.ok {k : Nat} {a0 : Int} {a1 : Int} {r0 : Bool} (H : boarderref01_Fair.f k a0 a1 = some r0) : CallOK Try.prog glo 77 [.imm (.int .i64 a0), .imm (.int .i64 a1)] (.imm (.bool r0)) := by
  unfold boarderref01_Fair.f at H
  refine CallOK.of (c := boarderref01_Fair.cx) Try.func77 (show (boarderref01_Fair.cx).fn.body = some _ from rfl) rfl rfl (Nat.le_of_ble_eq_true rfl) ?_
  repeat' (first
    | ((with_reducible replace H := some_ite H); obtain ⟨_, H⟩ := H)
    | ((with_reducible replace H := none_ite H); obtain ⟨_, H⟩ := H)
    | (with_reducible replace H := true_ite H)
    | (with_reducible replace H := false_ite H)
    | ((with_reducible have hb := bool_ite H); clear H; rcases hb with ⟨e_, H⟩ | ⟨e_, H⟩ <;> subst e_)
    | ((with_reducible apply ROps.pure); (case hop => rfl); (case hw => rfl); (case hdst => rfl); (case hd => rfl))
    | (with_reducible apply ROps.nil)
    | (with_reducible apply Runs.seq)
    | (with_reducible apply Runs.region tysOK)
    | (with_reducible apply Runs.scope)
    | (with_reducible apply Runs.inScope)
    | (with_reducible apply Runs.label)
    | ((with_reducible apply ROps.cmp); (case hop => exact cmpX); (case hw => rfl); (case hdst => rfl); (case hd => rfl); (all_goals (intro h; first | (replace H := ite_pos_ h H) | (replace H := ite_neg_ h H) | (replace H := dec_pos h H) | (replace H := dec_neg h H) | (replace H := dec_t h H) | (replace H := dec_f h H) | (replace H := beq_pos h H) | (replace H := beq_neg h H) | (replace H := beq_tt h H) | (replace H := beq_ff h H) | (replace H := ite_pos_ (Decidable.not_not.1 h) H) | (replace H := beq_pos (Decidable.not_not.1 h) H) | (replace H := beq_tt (Decidable.not_not.1 h) H) | ((try simp only [rdOf] at h); (try simp only [rdOf] at H); (rw [decide_eq_true h] at H)) | ((try simp only [rdOf] at h); (try simp only [rdOf] at H); (rw [decide_eq_false h] at H)) | ((try simp only [rdOf] at h); (try simp only [rdOf] at H); (rw [beq_t h] at H)) | ((try simp only [rdOf] at h); (try simp only [rdOf] at H); (rw [beq_f h] at H)) | ((try simp only [rdOf] at h); (try simp only [rdOf] at H); (rw [bne_t h] at H)) | ((try simp only [rdOf] at h); (try simp only [rdOf] at H); (rw [bne_f h] at H)) | ((try simp only [rdOf] at h); (try simp only [rdOf] at H); (rw [beq_t (Decidable.not_not.1 h)] at H)) | ((try simp only [rdOf] at h); (try simp only [rdOf] at H); (rw [bne_f (Decidable.not_not.1 h)] at H)) | ((try simp only [rdOf] at h); (try simp only [rdOf] at H); (rw [if_pos h] at H)) | ((try simp only [rdOf] at h); (try simp only [rdOf] at H); (rw [if_neg h] at H)) | contradiction | skip)))
    | ((with_reducible apply ROps.val); (case hop => exact valX); (case hw => rfl); (case hdst => rfl); (case hd => rfl))
    | ((with_reducible apply ROps.off); (case hw => rfl); (case hdst => rfl); (case hd => rfl))
    | ((with_reducible have hB : (boarderref01_Right.f _).bind _ = some _ := H); clear hB; (replace H := bind_some' H); (obtain ⟨t_, H1, H⟩ := H); (try dsimp only at H); (with_reducible apply ROps.call); (case hop => rfl); (case hc => exact boarderref01_Right.ok H1); (case ha => exact argsX); (case hw => rfl); (case hdst => rfl); (case hd => rfl))
    | ((with_reducible have hB : (boarderref01_Size.f _ _).bind _ = some _ := H); clear hB; (replace H := bind_some' H); (obtain ⟨t_, H1, H⟩ := H); (try dsimp only at H); (with_reducible apply ROps.call); (case hop => rfl); (case hc => exact boarderref01_Size.ok H1); (case ha => exact argsX); (case hw => rfl); (case hdst => rfl); (case hd => rfl))
    | ((with_reducible apply Runs.retP tysOK); (case hrs => rfl); (case h => rfl); (case hr => (cases H; exact refX)); (case hx => rfl))
    | exact leRX)
end Go.Proofs.Ytdcabfonjmeajaa.PAlloc
set_option linter.unusedVariables false
set_option linter.unusedSimpArgs false
namespace Go.Proofs.Ytdcabfonjmeajaa.PAlloc
open Go.RowKit Go.Proofs.YtdcabfonjmeajaaW.PrintWords Go.Proofs.YtdcabfonjmeajaaW.PrintLast Go.Proofs.YtdcabfonjmeajaaW.PrintMore Go.Proofs.Ytdcabfonjmeajaa.Abs
/-! ### boarderref13_subnet: function 71 -/
mutual
def boarderref13_subnet.j0 : Nat → Bool → Int → Int → List (S62) → List (S59) → Int → Int → Int → Option (Bool)
  | 0, _, _, _, _, _, _, _, _ => none
  | k + 1, x32, x326000, x326001, x326002, x326003, x326004, x326005, x326006 => if x32 = true then (some false) else (if x326004 < 0 then (boarderref13_subnet.j1 k true x326000 x326001 x326002 x326003 x326004 x326005 x326006) else (if x326004 > 99 then (boarderref13_subnet.j1 k true x326000 x326001 x326002 x326003 x326004 x326005 x326006) else (if x326006 < 1 then (boarderref13_subnet.j1 k true x326000 x326001 x326002 x326003 x326004 x326005 x326006) else (boarderref13_subnet.j1 k (decide (x326006 > 2147483648)) x326000 x326001 x326002 x326003 x326004 x326005 x326006))))
def boarderref13_subnet.j1 : Nat → Bool → Int → Int → List (S62) → List (S59) → Int → Int → Int → Option (Bool)
  | 0, _, _, _, _, _, _, _, _ => none
  | k + 1, x50, x326000, x326001, x326002, x326003, x326004, x326005, x326006 => if x50 = true then (some false) else (boarderref13_subnet.l0 k 0 x326000 x326001 x326002 x326003 x326004 x326005 x326006)
def boarderref13_subnet.l0 : Nat → Int → Int → Int → List (S62) → List (S59) → Int → Int → Int → Option (Bool)
  | 0, _, _, _, _, _, _, _, _ => none
  | k + 1, x3, x326000, x326001, x326002, x326003, x326004, x326005, x326006 => if x3 < (x326002.length : Int) then (if 0 ≤ x3 then (if ((rd_T62 x326002 x3).f1) < ((rd_T62 x326002 x3).f0) then (some false) else (boarderref13_subnet.l0 k (wrap64 (x3 + 1)) x326000 x326001 x326002 x326003 x326004 x326005 x326006)) else (none)) else (boarderref13_subnet.l1 k 0 x326000 x326001 x326002 x326003 x326004 x326005 x326006)
def boarderref13_subnet.l1 : Nat → Int → Int → Int → List (S62) → List (S59) → Int → Int → Int → Option (Bool)
  | 0, _, _, _, _, _, _, _, _ => none
  | k + 1, x4, x326000, x326001, x326002, x326003, x326004, x326005, x326006 => if x4 < (x326003.length : Int) then (if 0 ≤ x4 then ((boarderref07_Right.f ((rd_T59 x326003 x4).f0)).bind fun t330 => (if t330 = true then (boarderref13_subnet.l1 k (wrap64 (x4 + 1)) x326000 x326001 x326002 x326003 x326004 x326005 x326006) else (some false))) else (none)) else (some true)
end
def boarderref13_subnet.f (k : Nat) (a0_0 : Int) (a0_1 : Int) (l0_2 : List (S62)) (l0_3 : List (S59)) (a0_4 : Int) (a0_5 : Int) (a0_6 : Int) : Option (Bool) := (boarderref01_Fair.f k a0_0 a0_1).bind fun t326 => (if t326 = true then (if a0_1 < 8 then (boarderref13_subnet.j0 k true a0_0 a0_1 l0_2 l0_3 a0_4 a0_5 a0_6) else (if a0_1 > 30 then (boarderref13_subnet.j0 k true a0_0 a0_1 l0_2 l0_3 a0_4 a0_5 a0_6) else (if (l0_2.length : Int) > 4 then (boarderref13_subnet.j0 k true a0_0 a0_1 l0_2 l0_3 a0_4 a0_5 a0_6) else (boarderref13_subnet.j0 k (decide ((l0_3.length : Int) > 8)) a0_0 a0_1 l0_2 l0_3 a0_4 a0_5 a0_6)))) else (boarderref13_subnet.j0 k true a0_0 a0_1 l0_2 l0_3 a0_4 a0_5 a0_6))
noncomputable def boarderref13_subnet.cx : Cx := ⟨Try.prog, tys, glo, 86, Try.f71, [.tmp 2]⟩
set_option maxHeartbeats 16000000 in
set_option maxRecDepth 100000 in
theorem boarderref13_subnet.ok {k : Nat} {a0_0 : Int} {a0_1 : Int} {l0_2 : List (S62)} {l0_3 : List (S59)} {a0_4 : Int} {a0_5 : Int} {a0_6 : Int} {r0 : Bool} (H : boarderref13_subnet.f k a0_0 a0_1 l0_2 l0_3 a0_4 a0_5 a0_6 = some r0) : CallOK Try.prog glo 71 [.agg [.imm (.int .i64 a0_0), .imm (.int .i64 a0_1), vS62 l0_2, vS59 l0_3, .imm (.int .i64 a0_4), .imm (.int .i64 a0_5), .imm (.int .i64 a0_6)]] (.imm (.bool r0)) := by
  unfold boarderref13_subnet.f at H
  refine CallOK.of (c := boarderref13_subnet.cx) Try.func71 (show (boarderref13_subnet.cx).fn.body = some _ from rfl) rfl rfl (Nat.le_of_ble_eq_true rfl) ?_
  repeat' (first
    | ((with_reducible have hJ : boarderref13_subnet.j0 k _ _ _ _ _ _ _ _ = some _ := H); clear hJ; (rcases k with _ | k); (rw [boarderref13_subnet.j0] at H; cases H); (rw [boarderref13_subnet.j0] at H))
    | ((with_reducible have hJ : boarderref13_subnet.j0 k0 _ _ _ _ _ _ _ _ = some _ := H); clear hJ; (rcases k0 with _ | k0); (rw [boarderref13_subnet.j0] at H; cases H); (rw [boarderref13_subnet.j0] at H))
    | ((with_reducible have hJ : boarderref13_subnet.j0 k1 _ _ _ _ _ _ _ _ = some _ := H); clear hJ; (rcases k1 with _ | k1); (rw [boarderref13_subnet.j0] at H; cases H); (rw [boarderref13_subnet.j0] at H))
    | ((with_reducible have hJ : boarderref13_subnet.j1 k _ _ _ _ _ _ _ _ = some _ := H); clear hJ; (rcases k with _ | k); (rw [boarderref13_subnet.j1] at H; cases H); (rw [boarderref13_subnet.j1] at H))
    | ((with_reducible have hJ : boarderref13_subnet.j1 k0 _ _ _ _ _ _ _ _ = some _ := H); clear hJ; (rcases k0 with _ | k0); (rw [boarderref13_subnet.j1] at H; cases H); (rw [boarderref13_subnet.j1] at H))
    | ((with_reducible have hJ : boarderref13_subnet.j1 k1 _ _ _ _ _ _ _ _ = some _ := H); clear hJ; (rcases k1 with _ | k1); (rw [boarderref13_subnet.j1] at H; cases H); (rw [boarderref13_subnet.j1] at H))
    | ((with_reducible replace H := some_ite H); obtain ⟨_, H⟩ := H)
    | (with_reducible replace H := true_ite H)
    | (with_reducible replace H := false_ite H)
    | ((with_reducible have hb := bool_ite H); clear H; rcases hb with ⟨e_, H⟩ | ⟨e_, H⟩ <;> subst e_)
    | ((first | with_reducible apply ROps.pure | with_reducible apply DOps.pure); (case hop => rfl); (case hw => rfl); (case hdst => rfl); (case hd => rfl))
    | (first | with_reducible apply ROps.nil | with_reducible apply DOps.nil)
    | (with_reducible apply Runs.seq)
    | (with_reducible apply Runs.region tysOK)
    | ((with_reducible apply Runs.drawn tysOK mixed); (case hB => kernel_rfl))
    | (with_reducible apply Runs.block)
    | (with_reducible apply Runs.skip)
    | (with_reducible apply Runs.inBlock)
    | (with_reducible apply Runs.scope)
    | (with_reducible apply Runs.inScope)
    | (with_reducible apply Runs.label)
    | ((with_reducible apply Runs.condT); (case ho => rfl))
    | ((with_reducible apply Runs.condF); (case ho => rfl))
    | ((with_reducible apply Runs.exit); (case he => rfl))
    | ((first | with_reducible apply ROps.cmp | with_reducible apply DOps.cmp); (case hop => exact cmpX); (case hw => rfl); (case hdst => rfl); (case hd => rfl); (all_goals (intro h; first | (replace H := ite_pos_ h H) | (replace H := ite_neg_ h H) | (replace H := dec_pos h H) | (replace H := dec_neg h H) | (replace H := dec_t h H) | (replace H := dec_f h H) | (replace H := ite_pos_ (Decidable.not_not.1 h) H) | ((try simp only [rd_T59, rd_T62, rdOf] at h); (try simp only [rd_T59, rd_T62, rdOf] at H); (rw [decide_eq_true h] at H)) | ((try simp only [rd_T59, rd_T62, rdOf] at h); (try simp only [rd_T59, rd_T62, rdOf] at H); (rw [decide_eq_false h] at H)) | ((try simp only [rd_T59, rd_T62, rdOf] at h); (try simp only [rd_T59, rd_T62, rdOf] at H); (rw [if_pos h] at H)) | ((try simp only [rd_T59, rd_T62, rdOf] at h); (try simp only [rd_T59, rd_T62, rdOf] at H); (rw [if_neg h] at H)) | contradiction | skip)))
    | ((first | with_reducible apply ROps.val | with_reducible apply DOps.val); (case hop => exact valX); (case hw => rfl); (case hdst => rfl); (case hd => rfl))
    | ((first | with_reducible apply ROps.idx | with_reducible apply DOps.idx); (case hop => rfl); (case hx => rfl); (case hi => rfl); (case he => rfl); (case hw => rfl); (case hdst => rfl); (case hd => rfl); (case h0 => first | assumption | omega); (case h1 => first | assumption | omega))
    | ((with_reducible apply ROps.box); (case hop => rfl); (case hx => rfl); (case hrf => rfl); (all_goals try rfl))
    | ((first | with_reducible apply ROps.off | with_reducible apply DOps.off); (case hw => rfl); (case hdst => rfl); (case hd => rfl))
    | ((with_reducible have hB : (boarderref07_Right.f _).bind _ = some _ := H); clear hB; (replace H := bind_some' H); (obtain ⟨t_, H1, H⟩ := H); (try dsimp only at H); (first | with_reducible apply ROps.call | with_reducible apply DOps.call); (case hop => rfl); (case hc => exact boarderref07_Right.ok H1); (case ha => exact argsX); (case hw => rfl); (case hdst => rfl); (case hd => rfl))
    | ((with_reducible have hB : (boarderref01_Fair.f _ _ _).bind _ = some _ := H); clear hB; (replace H := bind_some' H); (obtain ⟨t_, H1, H⟩ := H); (try dsimp only at H); (first | with_reducible apply ROps.call | with_reducible apply DOps.call); (case hop => rfl); (case hc => exact boarderref01_Fair.ok H1); (case ha => exact argsX); (case hw => rfl); (case hdst => rfl); (case hd => rfl))
    | ((with_reducible apply Runs.loopK1 ((fun i0 i1 i2 i3 i4 i5 i6 => fun kk (v0_3 : Int) => boarderref13_subnet.l0 kk v0_3 i0 i1 i2 i3 i4 i5 i6) _ _ _ _ _ _ _) [1] [] (fun b v0_3 => [(3, .imm (.int .i64 v0_3))]) (fun v0_3 => []) _ _ [] H); (case h0 => intros; rfl); (any_goals (clear H; intro k0 hk0 ih0 v0_3 H; replace H : boarderref13_subnet.l0 (k0 + 1) v0_3 _ _ _ _ _ _ _ = some _ := H; rw [boarderref13_subnet.l0] at H)))
    | (with_reducible apply ih0 _ _ [] _ _ (by omega) H)
    | ((with_reducible apply Runs.loopK1 ((fun i0 i1 i2 i3 i4 i5 i6 => fun kk (v1_4 : Int) => boarderref13_subnet.l1 kk v1_4 i0 i1 i2 i3 i4 i5 i6) _ _ _ _ _ _ _) [1] [] (fun b v1_4 => [(4, .imm (.int .i64 v1_4))]) (fun v1_4 => []) _ _ [] H); (case h0 => intros; rfl); (any_goals (clear H; intro k1 hk1 ih1 v1_4 H; replace H : boarderref13_subnet.l1 (k1 + 1) v1_4 _ _ _ _ _ _ _ = some _ := H; rw [boarderref13_subnet.l1] at H)))
    | (with_reducible apply ih1 _ _ [] _ _ (by omega) H)
    | ((with_reducible apply Runs.retP tysOK); (case hrs => rfl); (case h => rfl); (case hr => (cases H; exact refX)); (case hx => rfl))
    | exact leRX)
end Go.Proofs.Ytdcabfonjmeajaa.PAlloc
set_option linter.unusedVariables false
set_option linter.unusedSimpArgs false
namespace Go.Proofs.Ytdcabfonjmeajaa.PAlloc
open Go.RowKit Go.Proofs.YtdcabfonjmeajaaW.PrintWords Go.Proofs.YtdcabfonjmeajaaW.PrintLast Go.Proofs.YtdcabfonjmeajaaW.PrintMore Go.Proofs.Ytdcabfonjmeajaa.Abs
/-! ### boarderref13_Form: function 43 -/
mutual
def boarderref13_Form.j0 : Nat → Bool → Int → Int → List (S41) → Option (Bool)
  | 0, _, _, _, _ => none
  | k + 1, x24, x332000, x332001, x332002 => if x24 = true then (some false) else (boarderref13_Form.l0 k 0 x332000 x332001 x332002)
def boarderref13_Form.l0 : Nat → Int → Int → Int → List (S41) → Option (Bool)
  | 0, _, _, _, _ => none
  | k + 1, x3, x332000, x332001, x332002 => if x3 < (x332002.length : Int) then (if 0 ≤ x3 then (if (((rd_T41 x332002 x3).f0).length : Int) = 0 then (boarderref13_Form.j2 k x3 true x332000 x332001 x332002) else (boarderref13_Form.j2 k x3 (decide ((((rd_T41 x332002 x3).f0).length : Int) > 4)) x332000 x332001 x332002)) else (none)) else (some true)
def boarderref13_Form.j2 : Nat → Int → Bool → Int → Int → List (S41) → Option (Bool)
  | 0, _, _, _, _, _ => none
  | k + 1, x3, x49, x332000, x332001, x332002 => if x49 = true then (some false) else (boarderref13_Form.l1 k x3 0 x332000 x332001 x332002)
def boarderref13_Form.l1 : Nat → Int → Int → Int → Int → List (S41) → Option (Bool)
  | 0, _, _, _, _, _ => none
  | k + 1, x3, x4, x332000, x332001, x332002 => if 0 ≤ x3 then (if x3 < (x332002.length : Int) then (if x4 < (((rd_T41 x332002 x3).f0).length : Int) then (if 0 ≤ x4 then ((boarderref13_subnet.f k ((rd_T57 ((rd_T41 x332002 x3).f0) x4).f0) ((rd_T57 ((rd_T41 x332002 x3).f0) x4).f1) ((rd_T57 ((rd_T41 x332002 x3).f0) x4).f2) ((rd_T57 ((rd_T41 x332002 x3).f0) x4).f3) ((rd_T57 ((rd_T41 x332002 x3).f0) x4).f4) ((rd_T57 ((rd_T41 x332002 x3).f0) x4).f5) ((rd_T57 ((rd_T41 x332002 x3).f0) x4).f6)).bind fun t338 => (if t338 = true then (boarderref13_Form.l1 k x3 (wrap64 (x4 + 1)) x332000 x332001 x332002) else (some false))) else (none)) else (boarderref13_Form.l0 k (wrap64 (x3 + 1)) x332000 x332001 x332002)) else (none)) else (none)
end
def boarderref13_Form.f (k : Nat) (a0_0 : Int) (a0_1 : Int) (l0_2 : List (S41)) : Option (Bool) := (boarderref01_Right.f a0_0).bind fun t332 => (if t332 = true then (if a0_1 < 1 then (boarderref13_Form.j0 k true a0_0 a0_1 l0_2) else (if a0_1 > 2147483648 then (boarderref13_Form.j0 k true a0_0 a0_1 l0_2) else (boarderref13_Form.j0 k (decide ((l0_2.length : Int) > 4)) a0_0 a0_1 l0_2))) else (boarderref13_Form.j0 k true a0_0 a0_1 l0_2))
noncomputable def boarderref13_Form.cx : Cx := ⟨Try.prog, tys, glo, 72, Try.f43, [.tmp 2]⟩
set_option maxHeartbeats 16000000 in
set_option maxRecDepth 100000 in
theorem boarderref13_Form.ok {k : Nat} {a0_0 : Int} {a0_1 : Int} {l0_2 : List (S41)} {r0 : Bool} (H : boarderref13_Form.f k a0_0 a0_1 l0_2 = some r0) : CallOK Try.prog glo 43 [.agg [.imm (.int .i64 a0_0), .imm (.int .i64 a0_1), vS41 l0_2]] (.imm (.bool r0)) := by
  unfold boarderref13_Form.f at H
  refine CallOK.of (c := boarderref13_Form.cx) Try.func43 (show (boarderref13_Form.cx).fn.body = some _ from rfl) rfl rfl (Nat.le_of_ble_eq_true rfl) ?_
  repeat' (first
    | ((with_reducible have hJ : boarderref13_Form.j0 k _ _ _ _ = some _ := H); clear hJ; (rcases k with _ | k); (rw [boarderref13_Form.j0] at H; cases H); (rw [boarderref13_Form.j0] at H))
    | ((with_reducible have hJ : boarderref13_Form.j0 k0 _ _ _ _ = some _ := H); clear hJ; (rcases k0 with _ | k0); (rw [boarderref13_Form.j0] at H; cases H); (rw [boarderref13_Form.j0] at H))
    | ((with_reducible have hJ : boarderref13_Form.j0 k1 _ _ _ _ = some _ := H); clear hJ; (rcases k1 with _ | k1); (rw [boarderref13_Form.j0] at H; cases H); (rw [boarderref13_Form.j0] at H))
    | ((with_reducible have hJ : boarderref13_Form.j2 k _ _ _ _ _ = some _ := H); clear hJ; (rcases k with _ | k); (rw [boarderref13_Form.j2] at H; cases H); (rw [boarderref13_Form.j2] at H))
    | ((with_reducible have hJ : boarderref13_Form.j2 k0 _ _ _ _ _ = some _ := H); clear hJ; (rcases k0 with _ | k0); (rw [boarderref13_Form.j2] at H; cases H); (rw [boarderref13_Form.j2] at H))
    | ((with_reducible have hJ : boarderref13_Form.j2 k1 _ _ _ _ _ = some _ := H); clear hJ; (rcases k1 with _ | k1); (rw [boarderref13_Form.j2] at H; cases H); (rw [boarderref13_Form.j2] at H))
    | ((with_reducible replace H := some_ite H); obtain ⟨_, H⟩ := H)
    | (with_reducible replace H := true_ite H)
    | (with_reducible replace H := false_ite H)
    | ((with_reducible have hb := bool_ite H); clear H; rcases hb with ⟨e_, H⟩ | ⟨e_, H⟩ <;> subst e_)
    | ((with_reducible apply ROps.pure); (case hop => rfl); (case hw => rfl); (case hdst => rfl); (case hd => rfl))
    | (with_reducible apply ROps.nil)
    | (with_reducible apply Runs.seq)
    | (with_reducible apply Runs.region tysOK)
    | (with_reducible apply Runs.block)
    | (with_reducible apply Runs.skip)
    | (with_reducible apply Runs.inBlock)
    | (with_reducible apply Runs.scope)
    | (with_reducible apply Runs.inScope)
    | (with_reducible apply Runs.label)
    | ((with_reducible apply Runs.condT); (case ho => rfl))
    | ((with_reducible apply Runs.condF); (case ho => rfl))
    | ((with_reducible apply Runs.exit); (case he => rfl))
    | ((with_reducible apply ROps.cmp); (case hop => exact cmpX); (case hw => rfl); (case hdst => rfl); (case hd => rfl); (all_goals (intro h; first | (replace H := ite_pos_ h H) | (replace H := ite_neg_ h H) | (replace H := dec_pos h H) | (replace H := dec_neg h H) | (replace H := dec_t h H) | (replace H := dec_f h H) | (replace H := beq_pos h H) | (replace H := beq_neg h H) | (replace H := beq_tt h H) | (replace H := beq_ff h H) | (replace H := ite_pos_ (Decidable.not_not.1 h) H) | (replace H := beq_pos (Decidable.not_not.1 h) H) | (replace H := beq_tt (Decidable.not_not.1 h) H) | ((try simp only [rd_T41, rd_T57, rdOf] at h); (try simp only [rd_T41, rd_T57, rdOf] at H); (rw [decide_eq_true h] at H)) | ((try simp only [rd_T41, rd_T57, rdOf] at h); (try simp only [rd_T41, rd_T57, rdOf] at H); (rw [decide_eq_false h] at H)) | ((try simp only [rd_T41, rd_T57, rdOf] at h); (try simp only [rd_T41, rd_T57, rdOf] at H); (rw [beq_t h] at H)) | ((try simp only [rd_T41, rd_T57, rdOf] at h); (try simp only [rd_T41, rd_T57, rdOf] at H); (rw [beq_f h] at H)) | ((try simp only [rd_T41, rd_T57, rdOf] at h); (try simp only [rd_T41, rd_T57, rdOf] at H); (rw [bne_t h] at H)) | ((try simp only [rd_T41, rd_T57, rdOf] at h); (try simp only [rd_T41, rd_T57, rdOf] at H); (rw [bne_f h] at H)) | ((try simp only [rd_T41, rd_T57, rdOf] at h); (try simp only [rd_T41, rd_T57, rdOf] at H); (rw [beq_t (Decidable.not_not.1 h)] at H)) | ((try simp only [rd_T41, rd_T57, rdOf] at h); (try simp only [rd_T41, rd_T57, rdOf] at H); (rw [bne_f (Decidable.not_not.1 h)] at H)) | ((try simp only [rd_T41, rd_T57, rdOf] at h); (try simp only [rd_T41, rd_T57, rdOf] at H); (rw [if_pos h] at H)) | ((try simp only [rd_T41, rd_T57, rdOf] at h); (try simp only [rd_T41, rd_T57, rdOf] at H); (rw [if_neg h] at H)) | contradiction | skip)))
    | ((with_reducible apply ROps.val); (case hop => exact valX); (case hw => rfl); (case hdst => rfl); (case hd => rfl))
    | ((with_reducible apply ROps.idx); (case hop => rfl); (case hx => rfl); (case hi => rfl); (case he => rfl); (case hw => rfl); (case hdst => rfl); (case hd => rfl); (case h0 => first | assumption | omega); (case h1 => first | assumption | omega))
    | ((with_reducible apply ROps.box); (case hop => rfl); (case hx => rfl); (case hrf => rfl); (all_goals try rfl))
    | ((with_reducible apply ROps.off); (case hw => rfl); (case hdst => rfl); (case hd => rfl))
    | ((with_reducible have hB : (boarderref01_Right.f _).bind _ = some _ := H); clear hB; (replace H := bind_some' H); (obtain ⟨t_, H1, H⟩ := H); (try dsimp only at H); (with_reducible apply ROps.call); (case hop => rfl); (case hc => exact boarderref01_Right.ok H1); (case ha => exact argsX); (case hw => rfl); (case hdst => rfl); (case hd => rfl))
    | ((with_reducible have hB : (boarderref13_subnet.f _ _ _ _ _ _ _ _).bind _ = some _ := H); clear hB; (replace H := bind_some' H); (obtain ⟨t_, H1, H⟩ := H); (try dsimp only at H); (with_reducible apply ROps.call); (case hop => rfl); (case hc => exact boarderref13_subnet.ok H1); (case ha => exact argsX); (case hw => rfl); (case hdst => rfl); (case hd => rfl))
    | ((with_reducible apply Runs.loopK1 ((fun i0 i1 i2 => fun kk (v0_3 : Int) => boarderref13_Form.l0 kk v0_3 i0 i1 i2) _ _ _) [1] [] (fun b v0_3 => [(3, .imm (.int .i64 v0_3))]) (fun v0_3 => []) _ _ [] H); (case h0 => intros; rfl); (any_goals (clear H; intro k0 hk0 ih0 v0_3 H; replace H : boarderref13_Form.l0 (k0 + 1) v0_3 _ _ _ = some _ := H; rw [boarderref13_Form.l0] at H)))
    | (with_reducible apply ih0 _ _ [] _ _ (by omega) H)
    | ((with_reducible apply Runs.loopK1 ((fun i0 i1 i2 i3 => fun kk (v1_4 : Int) => boarderref13_Form.l1 kk i0 v1_4 i1 i2 i3) _ _ _ _) [1, 3] [] (fun b v1_4 => [(4, .imm (.int .i64 v1_4))]) (fun v1_4 => []) _ _ [] H); (case h0 => intros; rfl); (any_goals (clear H; intro k1 hk1 ih1 v1_4 H; replace H : boarderref13_Form.l1 (k1 + 1) _ v1_4 _ _ _ = some _ := H; rw [boarderref13_Form.l1] at H)))
    | (with_reducible apply ih1 _ _ [] _ _ (by omega) H)
    | ((with_reducible apply Runs.retP tysOK); (case hrs => rfl); (case h => rfl); (case hr => (cases H; exact refX)); (case hx => rfl))
    | exact leRX)
end Go.Proofs.Ytdcabfonjmeajaa.PAlloc
set_option linter.unusedVariables false
set_option linter.unusedSimpArgs false
namespace Go.Proofs.Ytdcabfonjmeajaa.PAlloc
open Go.RowKit Go.Proofs.YtdcabfonjmeajaaW.PrintWords Go.Proofs.YtdcabfonjmeajaaW.PrintLast Go.Proofs.YtdcabfonjmeajaaW.PrintMore Go.Proofs.Ytdcabfonjmeajaa.Abs
/-! ### boarderref01_Has: function 50 -/
def boarderref01_Has.f (k : Nat) (a0 : Int) (a1 : Int) (a2 : Int) : Option (Bool) := (boarderref01_Fair.f k a0 a1).bind fun t339 => (if t339 = true then ((boarderref01_Right.f a2).bind fun t340 => (if t340 = true then (if a2 ≥ a0 then ((boarderref01_Size.f k a1).bind fun t341 => (some (decide (a2 < (wrap64 (a0 + t341)))))) else (some false)) else (some false))) else (some false))
noncomputable def boarderref01_Has.cx : Cx := ⟨Try.prog, tys, glo, 27, Try.f50, [.tmp 6]⟩
set_option maxHeartbeats 16000000 in
set_option maxRecDepth 100000 in
theorem boarderref01_Has.ok {k : Nat} {a0 : Int} {a1 : Int} {a2 : Int} {r0 : Bool} (H : boarderref01_Has.f k a0 a1 a2 = some r0) : CallOK Try.prog glo 50 [.imm (.int .i64 a0), .imm (.int .i64 a1), .imm (.int .i64 a2)] (.imm (.bool r0)) := by
  unfold boarderref01_Has.f at H
  refine CallOK.of (c := boarderref01_Has.cx) Try.func50 (show (boarderref01_Has.cx).fn.body = some _ from rfl) rfl rfl (Nat.le_of_ble_eq_true rfl) ?_
  repeat' (first
    | ((with_reducible replace H := some_ite H); obtain ⟨_, H⟩ := H)
    | (with_reducible replace H := some_bind_ H)
    | (with_reducible replace H := true_ite H)
    | (with_reducible replace H := false_ite H)
    | ((with_reducible have hb := bool_ite H); clear H; rcases hb with ⟨e_, H⟩ | ⟨e_, H⟩ <;> subst e_)
    | ((with_reducible apply ROps.pure); (case hop => rfl); (case hw => rfl); (case hdst => rfl); (case hd => rfl))
    | (with_reducible apply ROps.nil)
    | (with_reducible apply Runs.seq)
    | (with_reducible apply Runs.region tysOK)
    | (with_reducible apply Runs.scope)
    | (with_reducible apply Runs.inScope)
    | (with_reducible apply Runs.label)
    | ((with_reducible apply ROps.cmp); (case hop => exact cmpX); (case hw => rfl); (case hdst => rfl); (case hd => rfl); (all_goals (intro h; first | (replace H := ite_pos_ h H) | (replace H := ite_neg_ h H) | (replace H := dec_pos h H) | (replace H := dec_neg h H) | (replace H := dec_t h H) | (replace H := dec_f h H) | (replace H := ite_pos_ (Decidable.not_not.1 h) H) | ((try simp only [rdOf] at h); (try simp only [rdOf] at H); (rw [decide_eq_true h] at H)) | ((try simp only [rdOf] at h); (try simp only [rdOf] at H); (rw [decide_eq_false h] at H)) | ((try simp only [rdOf] at h); (try simp only [rdOf] at H); (rw [if_pos h] at H)) | ((try simp only [rdOf] at h); (try simp only [rdOf] at H); (rw [if_neg h] at H)) | contradiction | skip)))
    | ((with_reducible apply ROps.val); (case hop => exact valX); (case hw => rfl); (case hdst => rfl); (case hd => rfl))
    | ((with_reducible apply ROps.off); (case hw => rfl); (case hdst => rfl); (case hd => rfl))
    | ((with_reducible have hB : (boarderref01_Right.f _).bind _ = some _ := H); clear hB; (replace H := bind_some' H); (obtain ⟨t_, H1, H⟩ := H); (try dsimp only at H); (with_reducible apply ROps.call); (case hop => rfl); (case hc => exact boarderref01_Right.ok H1); (case ha => exact argsX); (case hw => rfl); (case hdst => rfl); (case hd => rfl))
    | ((with_reducible have hB : (boarderref01_Fair.f _ _ _).bind _ = some _ := H); clear hB; (replace H := bind_some' H); (obtain ⟨t_, H1, H⟩ := H); (try dsimp only at H); (with_reducible apply ROps.call); (case hop => rfl); (case hc => exact boarderref01_Fair.ok H1); (case ha => exact argsX); (case hw => rfl); (case hdst => rfl); (case hd => rfl))
    | ((with_reducible have hB : (boarderref01_Size.f _ _).bind _ = some _ := H); clear hB; (replace H := bind_some' H); (obtain ⟨t_, H1, H⟩ := H); (try dsimp only at H); (with_reducible apply ROps.call); (case hop => rfl); (case hc => exact boarderref01_Size.ok H1); (case ha => exact argsX); (case hw => rfl); (case hdst => rfl); (case hd => rfl))
    | ((with_reducible apply Runs.retP tysOK); (case hrs => rfl); (case h => rfl); (case hr => (cases H; exact refX)); (case hx => rfl))
    | exact leRX)
end Go.Proofs.Ytdcabfonjmeajaa.PAlloc
set_option linter.unusedVariables false
set_option linter.unusedSimpArgs false
namespace Go.Proofs.Ytdcabfonjmeajaa.PAlloc
open Go.RowKit Go.Proofs.YtdcabfonjmeajaaW.PrintWords Go.Proofs.YtdcabfonjmeajaaW.PrintLast Go.Proofs.YtdcabfonjmeajaaW.PrintMore Go.Proofs.Ytdcabfonjmeajaa.Abs
/-! ### boarderref01_Last: function 87 -/
def boarderref01_Last.f (k : Nat) (a0 : Int) (a1 : Int) : Option (Int) := (boarderref01_Size.f k a1).bind fun t342 => (some (wrap64 ((wrap64 (a0 + t342)) - 1)))
noncomputable def boarderref01_Last.cx : Cx := ⟨Try.prog, tys, glo, 10, Try.f87, [.tmp 4]⟩
set_option maxHeartbeats 16000000 in
set_option maxRecDepth 100000 in
theorem boarderref01_Last.ok {k : Nat} {a0 : Int} {a1 : Int} {r0 : Int} (H : boarderref01_Last.f k a0 a1 = some r0) : CallOK Try.prog glo 87 [.imm (.int .i64 a0), .imm (.int .i64 a1)] (.imm (.int .i64 r0)) := by
  unfold boarderref01_Last.f at H
  refine CallOK.of (c := boarderref01_Last.cx) Try.func87 (show (boarderref01_Last.cx).fn.body = some _ from rfl) rfl rfl (Nat.le_of_ble_eq_true rfl) ?_
  repeat' (first
    | ((with_reducible replace H := some_ite H); obtain ⟨_, H⟩ := H)
    | ((with_reducible apply ROps.pure); (case hop => rfl); (case hw => rfl); (case hdst => rfl); (case hd => rfl))
    | (with_reducible apply ROps.nil)
    | (with_reducible apply Runs.seq)
    | (with_reducible apply Runs.region tysOK)
    | (with_reducible apply Runs.scope)
    | (with_reducible apply Runs.inScope)
    | (with_reducible apply Runs.label)
    | ((with_reducible apply ROps.val); (case hop => exact valX); (case hw => rfl); (case hdst => rfl); (case hd => rfl))
    | ((with_reducible have hB : (boarderref01_Size.f _ _).bind _ = some _ := H); clear hB; (replace H := bind_some' H); (obtain ⟨t_, H1, H⟩ := H); (try dsimp only at H); (with_reducible apply ROps.call); (case hop => rfl); (case hc => exact boarderref01_Size.ok H1); (case ha => exact argsX); (case hw => rfl); (case hdst => rfl); (case hd => rfl))
    | ((with_reducible apply Runs.retP tysOK); (case hrs => rfl); (case h => rfl); (case hr => (cases H; exact refX)); (case hx => rfl))
    | exact leRX)
end Go.Proofs.Ytdcabfonjmeajaa.PAlloc
set_option linter.unusedVariables false
set_option linter.unusedSimpArgs false
namespace Go.Proofs.Ytdcabfonjmeajaa.PAlloc
open Go.RowKit Go.Proofs.YtdcabfonjmeajaaW.PrintWords Go.Proofs.YtdcabfonjmeajaaW.PrintLast Go.Proofs.YtdcabfonjmeajaaW.PrintMore Go.Proofs.Ytdcabfonjmeajaa.Abs
/-! ### boarderref13_lends: function 72 -/
def boarderref13_lends.f (k : Nat) (a0_0 : Int) (a0_1 : Int) (l0_2 : List (S62)) (l0_3 : List (S59)) (a0_4 : Int) (a0_5 : Int) (a0_6 : Int) (a1 : Int) : Option (Bool) := if a1 > a0_0 then ((boarderref01_Last.f k a0_0 a0_1).bind fun t344 => (some (decide (a1 < t344)))) else (some false)
noncomputable def boarderref13_lends.cx : Cx := ⟨Try.prog, tys, glo, 18, Try.f72, [.tmp 4]⟩
set_option maxHeartbeats 16000000 in
set_option maxRecDepth 100000 in
theorem boarderref13_lends.ok {k : Nat} {a0_0 : Int} {a0_1 : Int} {l0_2 : List (S62)} {l0_3 : List (S59)} {a0_4 : Int} {a0_5 : Int} {a0_6 : Int} {a1 : Int} {r0 : Bool} (H : boarderref13_lends.f k a0_0 a0_1 l0_2 l0_3 a0_4 a0_5 a0_6 a1 = some r0) : CallOK Try.prog glo 72 [.agg [.imm (.int .i64 a0_0), .imm (.int .i64 a0_1), vS62 l0_2, vS59 l0_3, .imm (.int .i64 a0_4), .imm (.int .i64 a0_5), .imm (.int .i64 a0_6)], .imm (.int .i64 a1)] (.imm (.bool r0)) := by
  unfold boarderref13_lends.f at H
  refine CallOK.of (c := boarderref13_lends.cx) Try.func72 (show (boarderref13_lends.cx).fn.body = some _ from rfl) rfl rfl (Nat.le_of_ble_eq_true rfl) ?_
  repeat' (first
    | ((with_reducible replace H := some_ite H); obtain ⟨_, H⟩ := H)
    | (with_reducible replace H := true_ite H)
    | (with_reducible replace H := false_ite H)
    | ((with_reducible have hb := bool_ite H); clear H; rcases hb with ⟨e_, H⟩ | ⟨e_, H⟩ <;> subst e_)
    | ((with_reducible apply ROps.pure); (case hop => rfl); (case hw => rfl); (case hdst => rfl); (case hd => rfl))
    | (with_reducible apply ROps.nil)
    | (with_reducible apply Runs.seq)
    | (with_reducible apply Runs.region tysOK)
    | (with_reducible apply Runs.scope)
    | (with_reducible apply Runs.inScope)
    | (with_reducible apply Runs.label)
    | ((with_reducible apply ROps.cmp); (case hop => exact cmpX); (case hw => rfl); (case hdst => rfl); (case hd => rfl); (all_goals (intro h; first | (replace H := ite_pos_ h H) | (replace H := ite_neg_ h H) | (replace H := dec_pos h H) | (replace H := dec_neg h H) | (replace H := dec_t h H) | (replace H := dec_f h H) | (replace H := ite_pos_ (Decidable.not_not.1 h) H) | ((try simp only [rdOf] at h); (try simp only [rdOf] at H); (rw [decide_eq_true h] at H)) | ((try simp only [rdOf] at h); (try simp only [rdOf] at H); (rw [decide_eq_false h] at H)) | ((try simp only [rdOf] at h); (try simp only [rdOf] at H); (rw [if_pos h] at H)) | ((try simp only [rdOf] at h); (try simp only [rdOf] at H); (rw [if_neg h] at H)) | contradiction | skip)))
    | ((with_reducible apply ROps.box); (case hop => rfl); (case hx => rfl); (case hrf => rfl); (all_goals try rfl))
    | ((with_reducible apply ROps.off); (case hw => rfl); (case hdst => rfl); (case hd => rfl))
    | ((with_reducible have hB : (boarderref01_Last.f _ _ _).bind _ = some _ := H); clear hB; (replace H := bind_some' H); (obtain ⟨t_, H1, H⟩ := H); (try dsimp only at H); (with_reducible apply ROps.call); (case hop => rfl); (case hc => exact boarderref01_Last.ok H1); (case ha => exact argsX); (case hw => rfl); (case hdst => rfl); (case hd => rfl))
    | ((with_reducible apply Runs.retP tysOK); (case hrs => rfl); (case h => rfl); (case hr => (cases H; exact refX)); (case hx => rfl))
    | exact leRX)
end Go.Proofs.Ytdcabfonjmeajaa.PAlloc
set_option linter.unusedVariables false
set_option linter.unusedSimpArgs false
namespace Go.Proofs.Ytdcabfonjmeajaa.PAlloc
open Go.RowKit Go.Proofs.YtdcabfonjmeajaaW.PrintWords Go.Proofs.YtdcabfonjmeajaaW.PrintLast Go.Proofs.YtdcabfonjmeajaaW.PrintMore Go.Proofs.Ytdcabfonjmeajaa.Abs
/-! ### boarderref13_Places: function 44 -/
mutual
def boarderref13_Places.l0 : Nat → Int → Int → Int → List (S41) → Option (Bool)
  | 0, _, _, _, _ => none
  | k + 1, x3, x346000, x346001, x346002 => if x3 < (x346002.length : Int) then (boarderref13_Places.l1 k x3 0 x346000 x346001 x346002) else (some true)
def boarderref13_Places.l1 : Nat → Int → Int → Int → Int → List (S41) → Option (Bool)
  | 0, _, _, _, _, _ => none
  | k + 1, x3, x4, x346000, x346001, x346002 => if 0 ≤ x3 then (if x3 < (x346002.length : Int) then (if x4 < (((rd_T41 x346002 x3).f0).length : Int) then (if 0 ≤ x4 then (boarderref13_Places.l2 k x3 x4 0 x346000 x346001 x346002 ((rd_T57 ((rd_T41 x346002 x3).f0) x4).f0) ((rd_T57 ((rd_T41 x346002 x3).f0) x4).f1) ((rd_T57 ((rd_T41 x346002 x3).f0) x4).f2) ((rd_T57 ((rd_T41 x346002 x3).f0) x4).f3) ((rd_T57 ((rd_T41 x346002 x3).f0) x4).f4) ((rd_T57 ((rd_T41 x346002 x3).f0) x4).f5) ((rd_T57 ((rd_T41 x346002 x3).f0) x4).f6)) else (none)) else (boarderref13_Places.l0 k (wrap64 (x3 + 1)) x346000 x346001 x346002)) else (none)) else (none)
def boarderref13_Places.l2 : Nat → Int → Int → Int → Int → Int → List (S41) → Int → Int → List (S62) → List (S59) → Int → Int → Int → Option (Bool)
  | 0, _, _, _, _, _, _, _, _, _, _, _, _, _ => none
  | k + 1, x3, x4, x6, x346000, x346001, x346002, x350000, x350001, x350002, x350003, x350004, x350005, x350006 => if x6 < (x350002.length : Int) then (if 0 ≤ x6 then ((boarderref13_lends.f k x350000 x350001 x350002 x350003 x350004 x350005 x350006 ((rd_T62 x350002 x6).f0)).bind fun t352 => (if t352 = true then ((boarderref13_lends.f k x350000 x350001 x350002 x350003 x350004 x350005 x350006 ((rd_T62 x350002 x6).f1)).bind fun t353 => (if t353 = true then (if x346000 ≥ ((rd_T62 x350002 x6).f0) then (if x346000 ≤ ((rd_T62 x350002 x6).f1) then (some false) else (boarderref13_Places.l2 k x3 x4 (wrap64 (x6 + 1)) x346000 x346001 x346002 x350000 x350001 x350002 x350003 x350004 x350005 x350006)) else (boarderref13_Places.l2 k x3 x4 (wrap64 (x6 + 1)) x346000 x346001 x346002 x350000 x350001 x350002 x350003 x350004 x350005 x350006)) else (some false))) else (some false))) else (none)) else (boarderref13_Places.l3 k x3 x4 0 x346000 x346001 x346002 x350000 x350001 x350002 x350003 x350004 x350005 x350006)
def boarderref13_Places.l3 : Nat → Int → Int → Int → Int → Int → List (S41) → Int → Int → List (S62) → List (S59) → Int → Int → Int → Option (Bool)
  | 0, _, _, _, _, _, _, _, _, _, _, _, _, _ => none
  | k + 1, x3, x4, x8, x346000, x346001, x346002, x350000, x350001, x350002, x350003, x350004, x350005, x350006 => if x8 < (x350003.length : Int) then (if 0 ≤ x8 then ((boarderref13_lends.f k x350000 x350001 x350002 x350003 x350004 x350005 x350006 ((rd_T59 x350003 x8).f1)).bind fun t355 => (if t355 = true then (if ((rd_T59 x350003 x8).f1) = x346000 then (some false) else (boarderref13_Places.l3 k x3 x4 (wrap64 (x8 + 1)) x346000 x346001 x346002 x350000 x350001 x350002 x350003 x350004 x350005 x350006)) else (some false))) else (none)) else (if x350005 = 0 then (boarderref13_Places.l1 k x3 (wrap64 (x4 + 1)) x346000 x346001 x346002) else ((boarderref01_Has.f k x350000 x350001 x350005).bind fun t357 => (if t357 = true then (boarderref13_Places.l1 k x3 (wrap64 (x4 + 1)) x346000 x346001 x346002) else (some false))))
end
def boarderref13_Places.f (k : Nat) (a0_0 : Int) (a0_1 : Int) (l0_2 : List (S41)) : Option (Bool) := boarderref13_Places.l0 k 0 a0_0 a0_1 l0_2
def boarderref13_Places.T17 : Bool × List (List Nat × List Nat) := (true, [([], []), ([], []), ([1], [1]), ([], []), ([2, 3], [2, 3]), ([4], [4]), ([5], [5]), ([0, 6], [0, 6]), ([7], [7]), ([8, 7], [8]), ([9], [9]), ([10, 9], [9, 10]), ([9], [9]), ([11, 12, 9], [9, 11, 12]), ([13, 9], [9, 13]), ([14, 9], [9, 14]), ([9], [9]), ([16, 9], [9, 16]), ([15, 17, 9], [9, 15, 17]), ([9, 18], [9, 18])])
def boarderref13_Places.B17 : List Nat := [0, 0, 2, 0, 14, 30, 62, 127, 255, 511, 1023, 2047, 1023, 8191, 16383, 32767, 1023, 66559, 262143, 524287]
noncomputable def boarderref13_Places.cx : Cx := ⟨Try.prog, tys, glo, 114, Try.f44, [.tmp 2]⟩
set_option maxHeartbeats 16000000 in
set_option maxRecDepth 100000 in
theorem boarderref13_Places.ok {k : Nat} {a0_0 : Int} {a0_1 : Int} {l0_2 : List (S41)} {r0 : Bool} (H : boarderref13_Places.f k a0_0 a0_1 l0_2 = some r0) : CallOK Try.prog glo 44 [.agg [.imm (.int .i64 a0_0), .imm (.int .i64 a0_1), vS41 l0_2]] (.imm (.bool r0)) := by
  unfold boarderref13_Places.f at H
  refine CallOK.of (c := boarderref13_Places.cx) Try.func44 (show (boarderref13_Places.cx).fn.body = some _ from rfl) rfl rfl (Nat.le_of_ble_eq_true rfl) ?_
  repeat' (first
    | ((with_reducible replace H := some_ite H); obtain ⟨_, H⟩ := H)
    | (with_reducible replace H := true_ite H)
    | (with_reducible replace H := false_ite H)
    | ((with_reducible have hb := bool_ite H); clear H; rcases hb with ⟨e_, H⟩ | ⟨e_, H⟩ <;> subst e_)
    | ((first | with_reducible apply ROps.pure | with_reducible apply DOps.pure); (case hop => rfl); (case hw => rfl); (case hdst => rfl); (case hd => rfl))
    | (first | with_reducible apply ROps.nil | with_reducible apply DOps.nil)
    | (with_reducible apply Runs.seq)
    | (with_reducible apply Runs.region tysOK)
    | ((with_reducible apply Runs.drawn tysOK mixed); (case hB => kernel_rfl))
    | (with_reducible apply Runs.block)
    | (with_reducible apply Runs.skip)
    | (with_reducible apply Runs.inBlock)
    | (with_reducible apply Runs.scope)
    | (with_reducible apply Runs.inScope)
    | (with_reducible apply Runs.label)
    | ((with_reducible apply Runs.condT); (case ho => rfl))
    | ((with_reducible apply Runs.condF); (case ho => rfl))
    | ((with_reducible apply Runs.exit); (case he => rfl))
    | ((with_reducible apply ROps.store); (case hop => rfl); (all_goals try rfl))
    | ((first | with_reducible apply ROps.cmp | with_reducible apply DOps.cmp); (case hop => exact cmpX); (case hw => rfl); (case hdst => rfl); (case hd => rfl); (all_goals (intro h; first | (replace H := ite_pos_ h H) | (replace H := ite_neg_ h H) | (replace H := dec_pos h H) | (replace H := dec_neg h H) | (replace H := dec_t h H) | (replace H := dec_f h H) | (replace H := beq_pos h H) | (replace H := beq_neg h H) | (replace H := beq_tt h H) | (replace H := beq_ff h H) | (replace H := ite_pos_ (Decidable.not_not.1 h) H) | (replace H := beq_pos (Decidable.not_not.1 h) H) | (replace H := beq_tt (Decidable.not_not.1 h) H) | ((try simp only [rd_T41, rd_T57, rd_T59, rd_T62, rdOf] at h); (try simp only [rd_T41, rd_T57, rd_T59, rd_T62, rdOf] at H); (rw [decide_eq_true h] at H)) | ((try simp only [rd_T41, rd_T57, rd_T59, rd_T62, rdOf] at h); (try simp only [rd_T41, rd_T57, rd_T59, rd_T62, rdOf] at H); (rw [decide_eq_false h] at H)) | ((try simp only [rd_T41, rd_T57, rd_T59, rd_T62, rdOf] at h); (try simp only [rd_T41, rd_T57, rd_T59, rd_T62, rdOf] at H); (rw [beq_t h] at H)) | ((try simp only [rd_T41, rd_T57, rd_T59, rd_T62, rdOf] at h); (try simp only [rd_T41, rd_T57, rd_T59, rd_T62, rdOf] at H); (rw [beq_f h] at H)) | ((try simp only [rd_T41, rd_T57, rd_T59, rd_T62, rdOf] at h); (try simp only [rd_T41, rd_T57, rd_T59, rd_T62, rdOf] at H); (rw [bne_t h] at H)) | ((try simp only [rd_T41, rd_T57, rd_T59, rd_T62, rdOf] at h); (try simp only [rd_T41, rd_T57, rd_T59, rd_T62, rdOf] at H); (rw [bne_f h] at H)) | ((try simp only [rd_T41, rd_T57, rd_T59, rd_T62, rdOf] at h); (try simp only [rd_T41, rd_T57, rd_T59, rd_T62, rdOf] at H); (rw [beq_t (Decidable.not_not.1 h)] at H)) | ((try simp only [rd_T41, rd_T57, rd_T59, rd_T62, rdOf] at h); (try simp only [rd_T41, rd_T57, rd_T59, rd_T62, rdOf] at H); (rw [bne_f (Decidable.not_not.1 h)] at H)) | ((try simp only [rd_T41, rd_T57, rd_T59, rd_T62, rdOf] at h); (try simp only [rd_T41, rd_T57, rd_T59, rd_T62, rdOf] at H); (rw [if_pos h] at H)) | ((try simp only [rd_T41, rd_T57, rd_T59, rd_T62, rdOf] at h); (try simp only [rd_T41, rd_T57, rd_T59, rd_T62, rdOf] at H); (rw [if_neg h] at H)) | contradiction | skip)))
    | ((first | with_reducible apply ROps.val | with_reducible apply DOps.val); (case hop => exact valX); (case hw => rfl); (case hdst => rfl); (case hd => rfl))
    | ((first | with_reducible apply ROps.idx | with_reducible apply DOps.idx); (case hop => rfl); (case hx => rfl); (case hi => rfl); (case he => rfl); (case hw => rfl); (case hdst => rfl); (case hd => rfl); (case h0 => first | assumption | omega); (case h1 => first | assumption | omega))
    | ((with_reducible apply ROps.alloc); (case hop => rfl); (all_goals try rfl))
    | ((with_reducible apply ROps.box); (case hop => rfl); (case hx => rfl); (case hrf => rfl); (all_goals try rfl))
    | ((first | with_reducible apply ROps.off | with_reducible apply DOps.off); (case hw => rfl); (case hdst => rfl); (case hd => rfl))
    | ((with_reducible have hB : (boarderref01_Has.f _ _ _ _).bind _ = some _ := H); clear hB; (replace H := bind_some' H); (obtain ⟨t_, H1, H⟩ := H); (try dsimp only at H); (first | with_reducible apply ROps.call | with_reducible apply DOps.call); (case hop => rfl); (case hc => exact boarderref01_Has.ok H1); (case ha => exact argsX); (case hw => rfl); (case hdst => rfl); (case hd => rfl))
    | ((with_reducible have hB : (boarderref13_lends.f _ _ _ _ _ _ _ _ _).bind _ = some _ := H); clear hB; (replace H := bind_some' H); (obtain ⟨t_, H1, H⟩ := H); (try dsimp only at H); (first | with_reducible apply ROps.call | with_reducible apply DOps.call); (case hop => rfl); (case hc => exact boarderref13_lends.ok H1); (case ha => exact argsX); (case hw => rfl); (case hdst => rfl); (case hd => rfl))
    | ((with_reducible apply Runs.loopK1 ((fun i0 i1 i2 => fun kk (v0_3 : Int) => boarderref13_Places.l0 kk v0_3 i0 i1 i2) _ _ _) [1] [] (fun b v0_3 => [(3, .imm (.int .i64 v0_3))]) (fun v0_3 => []) _ _ [] H); (case h0 => intros; rfl); (any_goals (clear H; intro k0 hk0 ih0 v0_3 H; replace H : boarderref13_Places.l0 (k0 + 1) v0_3 _ _ _ = some _ := H; rw [boarderref13_Places.l0] at H)))
    | (with_reducible apply ih0 _ _ [] _ _ (by omega) H)
    | ((with_reducible apply Runs.loopK1 ((fun i0 i1 i2 i3 => fun kk (v1_4 : Int) => boarderref13_Places.l1 kk i0 v1_4 i1 i2 i3) _ _ _ _) [1, 3] [] (fun b v1_4 => [(4, .imm (.int .i64 v1_4))]) (fun v1_4 => []) _ _ [] H); (case h0 => intros; rfl); (any_goals (clear H; intro k1 hk1 ih1 v1_4 H; replace H : boarderref13_Places.l1 (k1 + 1) _ v1_4 _ _ _ = some _ := H; rw [boarderref13_Places.l1] at H)))
    | (with_reducible apply ih1 _ _ [] _ _ (by omega) H)
    | ((with_reducible apply Runs.loopK1 ((fun i0 i1 i2 i3 i4 i5 i6 i7 i8 i9 i10 i11 => fun kk (v2_6 : Int) => boarderref13_Places.l2 kk i0 i1 v2_6 i2 i3 i4 i5 i6 i7 i8 i9 i10 i11) _ _ _ _ _ _ _ _ _ _ _ _) [1, 3, 4, 5] [] (fun b v2_6 => [(6, .imm (.int .i64 v2_6))]) (fun v2_6 => []) _ _ [] H); (case h0 => intros; rfl); (any_goals (clear H; intro k2 hk2 ih2 v2_6 H; replace H : boarderref13_Places.l2 (k2 + 1) _ _ v2_6 _ _ _ _ _ _ _ _ _ _ = some _ := H; rw [boarderref13_Places.l2] at H)))
    | (with_reducible apply ih2 _ _ [] _ _ (by omega) H)
    | ((with_reducible apply Runs.loopK1 ((fun i0 i1 i2 i3 i4 i5 i6 i7 i8 i9 i10 i11 => fun kk (v3_8 : Int) => boarderref13_Places.l3 kk i0 i1 v3_8 i2 i3 i4 i5 i6 i7 i8 i9 i10 i11) _ _ _ _ _ _ _ _ _ _ _ _) [1, 3, 4, 5] [] (fun b v3_8 => [(8, .imm (.int .i64 v3_8))]) (fun v3_8 => []) _ _ [] H); (case h0 => intros; rfl); (any_goals (clear H; intro k3 hk3 ih3 v3_8 H; replace H : boarderref13_Places.l3 (k3 + 1) _ _ v3_8 _ _ _ _ _ _ _ _ _ _ = some _ := H; rw [boarderref13_Places.l3] at H)))
    | (with_reducible apply ih3 _ _ [] _ _ (by omega) H)
    | ((with_reducible apply Runs.retP tysOK); (case hrs => rfl); (case h => rfl); (case hr => (cases H; exact refX)); (case hx => rfl))
    | exact leRX)
end Go.Proofs.Ytdcabfonjmeajaa.PAlloc
set_option linter.unusedVariables false
set_option linter.unusedSimpArgs false
namespace Go.Proofs.Ytdcabfonjmeajaa.PAlloc
open Go.RowKit Go.Proofs.YtdcabfonjmeajaaW.PrintWords Go.Proofs.YtdcabfonjmeajaaW.PrintLast Go.Proofs.YtdcabfonjmeajaaW.PrintMore Go.Proofs.Ytdcabfonjmeajaa.Abs
/-! ### boarderref13_Flat: function 47 -/
mutual
def boarderref13_Flat.l0 : Nat → List (S57) → List Int → Int → Int → Int → List (S41) → Option ((List (S57)) × List Int)
  | 0, _, _, _, _, _, _ => none
  | k + 1, x4, x5, x6, x359000, x359001, x359002 => if x6 < (x359002.length : Int) then (boarderref13_Flat.l1 k x4 x5 x6 0 x359000 x359001 x359002) else (some (x4, x5))
def boarderref13_Flat.l1 : Nat → List (S57) → List Int → Int → Int → Int → Int → List (S41) → Option ((List (S57)) × List Int)
  | 0, _, _, _, _, _, _, _ => none
  | k + 1, x4, x5, x6, x7, x359000, x359001, x359002 => if 0 ≤ x6 then (if x6 < (x359002.length : Int) then (if x7 < (((rd_T41 x359002 x6).f0).length : Int) then (if 0 ≤ x7 then (if x4.length < 1599289640401 then (if x5.length < 17592186044416 then (boarderref13_Flat.l1 k (x4 ++ [(⟨(rd_T57 ((rd_T41 x359002 x6).f0) x7).f0, (rd_T57 ((rd_T41 x359002 x6).f0) x7).f1, (rd_T57 ((rd_T41 x359002 x6).f0) x7).f2, (rd_T57 ((rd_T41 x359002 x6).f0) x7).f3, (rd_T57 ((rd_T41 x359002 x6).f0) x7).f4, (rd_T57 ((rd_T41 x359002 x6).f0) x7).f5, (rd_T57 ((rd_T41 x359002 x6).f0) x7).f6⟩ : S57)]) (x5 ++ [x6]) x6 (wrap64 (x7 + 1)) x359000 x359001 x359002) else (none)) else (none)) else (none)) else (boarderref13_Flat.l0 k x4 x5 (wrap64 (x6 + 1)) x359000 x359001 x359002)) else (none)) else (none)
end
def boarderref13_Flat.f (k : Nat) (a0_0 : Int) (a0_1 : Int) (l0_2 : List (S41)) : Option ((List (S57)) × List Int) := boarderref13_Flat.l0 k ([] : List (S57)) ([] : List Int) 0 a0_0 a0_1 l0_2
noncomputable def boarderref13_Flat.cx : Cx := ⟨Try.prog, tys, glo, 44, Try.f47, [.tmp 2, .tmp 3]⟩
set_option maxHeartbeats 16000000 in
set_option maxRecDepth 100000 in
theorem boarderref13_Flat.ok {k : Nat} {a0_0 : Int} {a0_1 : Int} {l0_2 : List (S41)} {r0 : (List (S57))} {r1 : List Int} (H : boarderref13_Flat.f k a0_0 a0_1 l0_2 = some (r0, r1)) : CallOK Try.prog glo 47 [.agg [.imm (.int .i64 a0_0), .imm (.int .i64 a0_1), vS41 l0_2]] (.tup [vS57 r0, vI .i64 r1]) := by
  unfold boarderref13_Flat.f at H
  refine CallOK.of (c := boarderref13_Flat.cx) Try.func47 (show (boarderref13_Flat.cx).fn.body = some _ from rfl) rfl rfl (Nat.le_of_ble_eq_true rfl) ?_
  repeat' (first
    | ((with_reducible replace H := some_ite H); obtain ⟨_, H⟩ := H)
    | (with_reducible replace H := true_ite H)
    | (with_reducible replace H := false_ite H)
    | ((with_reducible have hb := bool_ite H); clear H; rcases hb with ⟨e_, H⟩ | ⟨e_, H⟩ <;> subst e_)
    | ((with_reducible apply ROps.pure); (case hop => rfl); (case hw => rfl); (case hdst => rfl); (case hd => rfl))
    | (with_reducible apply ROps.nil)
    | (with_reducible apply Runs.seq)
    | (with_reducible apply Runs.region tysOK)
    | (with_reducible apply Runs.block)
    | (with_reducible apply Runs.skip)
    | (with_reducible apply Runs.inBlock)
    | (with_reducible apply Runs.scope)
    | (with_reducible apply Runs.inScope)
    | (with_reducible apply Runs.label)
    | ((with_reducible apply Runs.condT); (case ho => rfl))
    | ((with_reducible apply Runs.condF); (case ho => rfl))
    | ((with_reducible apply Runs.exit); (case he => rfl))
    | ((with_reducible apply ROps.cmp); (case hop => exact cmpX); (case hw => rfl); (case hdst => rfl); (case hd => rfl); (all_goals (intro h; first | (replace H := ite_pos_ h H) | (replace H := ite_neg_ h H) | (replace H := dec_pos h H) | (replace H := dec_neg h H) | (replace H := dec_t h H) | (replace H := dec_f h H) | (replace H := ite_pos_ (Decidable.not_not.1 h) H) | ((try simp only [rd_T41, rd_T57, rdOf] at h); (try simp only [rd_T41, rd_T57, rdOf] at H); (rw [decide_eq_true h] at H)) | ((try simp only [rd_T41, rd_T57, rdOf] at h); (try simp only [rd_T41, rd_T57, rdOf] at H); (rw [decide_eq_false h] at H)) | ((try simp only [rd_T41, rd_T57, rdOf] at h); (try simp only [rd_T41, rd_T57, rdOf] at H); (rw [if_pos h] at H)) | ((try simp only [rd_T41, rd_T57, rdOf] at h); (try simp only [rd_T41, rd_T57, rdOf] at H); (rw [if_neg h] at H)) | contradiction | skip)))
    | ((with_reducible apply ROps.val); (case hop => exact valX); (case hw => rfl); (case hdst => rfl); (case hd => rfl))
    | ((with_reducible apply ROps.idx); (case hop => rfl); (case hx => rfl); (case hi => rfl); (case he => rfl); (case hw => rfl); (case hdst => rfl); (case hd => rfl); (case h0 => first | assumption | omega); (case h1 => first | assumption | omega))
    | ((with_reducible apply ROps.box); (case hop => rfl); (case hx => rfl); (case hrf => rfl); (all_goals try rfl))
    | ((with_reducible apply ROps.lit); (case hop => rfl); (case hti => rfl); (case hsz => rfl); (case hl => rfl); (case hrf => rfl); (all_goals try rfl))
    | ((with_reducible apply ROps.app); (case hop => rfl); (case hti => rfl); (case hsz => rfl); (case hs => rfl); (case hR => rfl); (case hx => rfl); (case hb => constructor <;> ((try simp only [maxLen, List.length_nil, List.length_cons, List.length_append] at *); omega)); (all_goals try rfl))
    | ((with_reducible apply ROps.appN); (case hop => rfl); (case hti => rfl); (case hsz => rfl); (case hs => rfl); (case hx => rfl); (case hb => constructor <;> ((try simp only [maxLen, List.length_nil, List.length_cons, List.length_append] at *); omega)); (all_goals try rfl))
    | ((with_reducible apply Runs.loopK3 ((fun i0 i1 i2 => fun kk (v0_4 : List (S57)) (v0_5 : List Int) (v0_6 : Int) => boarderref13_Flat.l0 kk v0_4 v0_5 v0_6 i0 i1 i2) _ _ _) [1] [] (fun b v0_4 v0_5 v0_6 => [(4, .own (b + 0) (v0_4).length 7 (rowsE eS57 z57 v0_4)), (5, .own (b + 1) (v0_5).length 1 (rowsE (eInt .i64) 0 v0_5)), (6, .imm (.int .i64 v0_6))]) (fun v0_4 v0_5 v0_6 => [.arr 57 7 (v0_4).length, .arr 3 1 (v0_5).length]) _ _ _ _ [_, _] H); (case h0 => intros; rfl); (any_goals (clear H; intro k0 hk0 ih0 v0_4 v0_5 v0_6 H; replace H : boarderref13_Flat.l0 (k0 + 1) v0_4 v0_5 v0_6 _ _ _ = some _ := H; rw [boarderref13_Flat.l0] at H)))
    | (with_reducible apply ih0 _ _ _ _ [_, _] _ _ (by omega) H)
    | ((with_reducible apply Runs.loopK3 ((fun i0 i1 i2 i3 => fun kk (v1_4 : List (S57)) (v1_5 : List Int) (v1_7 : Int) => boarderref13_Flat.l1 kk v1_4 v1_5 i0 v1_7 i1 i2 i3) _ _ _ _) [1, 6] [] (fun b v1_4 v1_5 v1_7 => [(4, .own (b + 0) (v1_4).length 7 (rowsE eS57 z57 v1_4)), (5, .own (b + 1) (v1_5).length 1 (rowsE (eInt .i64) 0 v1_5)), (7, .imm (.int .i64 v1_7))]) (fun v1_4 v1_5 v1_7 => [.arr 57 7 (v1_4).length, .arr 3 1 (v1_5).length]) _ _ _ _ [_, _] H); (case h0 => intros; rfl); (any_goals (clear H; intro k1 hk1 ih1 v1_4 v1_5 v1_7 H; replace H : boarderref13_Flat.l1 (k1 + 1) v1_4 v1_5 _ v1_7 _ _ _ = some _ := H; rw [boarderref13_Flat.l1] at H)))
    | (with_reducible apply ih1 _ _ _ _ [_, _] _ _ (by omega) H)
    | ((with_reducible apply Runs.retP tysOK); (case hrs => rfl); (case h => rfl); (case hr => (cases H; exact refX)); (case hx => rfl))
    | exact leRX)
end Go.Proofs.Ytdcabfonjmeajaa.PAlloc
set_option linter.unusedVariables false
set_option linter.unusedSimpArgs false
namespace Go.Proofs.Ytdcabfonjmeajaa.PAlloc
open Go.RowKit Go.Proofs.YtdcabfonjmeajaaW.PrintWords Go.Proofs.YtdcabfonjmeajaaW.PrintLast Go.Proofs.YtdcabfonjmeajaaW.PrintMore Go.Proofs.Ytdcabfonjmeajaa.Abs
/-! ### boarderref13_Pooled: function 73 -/
mutual
def boarderref13_Pooled.l0 : Nat → Int → Int → Int → List (S62) → List (S59) → Int → Int → Int → Option (Bool)
  | 0, _, _, _, _, _, _, _, _ => none
  | k + 1, x3, x369000, x369001, x369002, x369003, x369004, x369005, x369006 => if x3 < (x369002.length : Int) then (boarderref13_Pooled.l1 k x3 0 x369000 x369001 x369002 x369003 x369004 x369005 x369006) else (some false)
def boarderref13_Pooled.l1 : Nat → Int → Int → Int → Int → List (S62) → List (S59) → Int → Int → Int → Option (Bool)
  | 0, _, _, _, _, _, _, _, _, _ => none
  | k + 1, x3, x4, x369000, x369001, x369002, x369003, x369004, x369005, x369006 => if x4 < x3 then (if 0 ≤ x3 then (if x3 < (x369002.length : Int) then (if 0 ≤ x4 then (if x4 < (x369002.length : Int) then (if ((rd_T62 x369002 x3).f0) ≤ ((rd_T62 x369002 x4).f1) then (if ((rd_T62 x369002 x4).f0) ≤ ((rd_T62 x369002 x3).f1) then (some true) else (boarderref13_Pooled.l1 k x3 (wrap64 (x4 + 1)) x369000 x369001 x369002 x369003 x369004 x369005 x369006)) else (boarderref13_Pooled.l1 k x3 (wrap64 (x4 + 1)) x369000 x369001 x369002 x369003 x369004 x369005 x369006)) else (none)) else (none)) else (none)) else (none)) else (boarderref13_Pooled.l0 k (wrap64 (x3 + 1)) x369000 x369001 x369002 x369003 x369004 x369005 x369006)
end
def boarderref13_Pooled.f (k : Nat) (a0_0 : Int) (a0_1 : Int) (l0_2 : List (S62)) (l0_3 : List (S59)) (a0_4 : Int) (a0_5 : Int) (a0_6 : Int) : Option (Bool) := boarderref13_Pooled.l0 k 0 a0_0 a0_1 l0_2 l0_3 a0_4 a0_5 a0_6
noncomputable def boarderref13_Pooled.cx : Cx := ⟨Try.prog, tys, glo, 45, Try.f73, [.tmp 2]⟩
set_option maxHeartbeats 16000000 in
set_option maxRecDepth 100000 in
theorem boarderref13_Pooled.ok {k : Nat} {a0_0 : Int} {a0_1 : Int} {l0_2 : List (S62)} {l0_3 : List (S59)} {a0_4 : Int} {a0_5 : Int} {a0_6 : Int} {r0 : Bool} (H : boarderref13_Pooled.f k a0_0 a0_1 l0_2 l0_3 a0_4 a0_5 a0_6 = some r0) : CallOK Try.prog glo 73 [.agg [.imm (.int .i64 a0_0), .imm (.int .i64 a0_1), vS62 l0_2, vS59 l0_3, .imm (.int .i64 a0_4), .imm (.int .i64 a0_5), .imm (.int .i64 a0_6)]] (.imm (.bool r0)) := by
  unfold boarderref13_Pooled.f at H
  refine CallOK.of (c := boarderref13_Pooled.cx) Try.func73 (show (boarderref13_Pooled.cx).fn.body = some _ from rfl) rfl rfl (Nat.le_of_ble_eq_true rfl) ?_
  repeat' (first
    | ((with_reducible replace H := some_ite H); obtain ⟨_, H⟩ := H)
    | (with_reducible replace H := true_ite H)
    | (with_reducible replace H := false_ite H)
    | ((with_reducible have hb := bool_ite H); clear H; rcases hb with ⟨e_, H⟩ | ⟨e_, H⟩ <;> subst e_)
    | ((first | with_reducible apply ROps.pure | with_reducible apply DOps.pure); (case hop => rfl); (case hw => rfl); (case hdst => rfl); (case hd => rfl))
    | (first | with_reducible apply ROps.nil | with_reducible apply DOps.nil)
    | (with_reducible apply Runs.seq)
    | (with_reducible apply Runs.region tysOK)
    | ((with_reducible apply Runs.drawn tysOK mixed); (case hB => kernel_rfl))
    | (with_reducible apply Runs.block)
    | (with_reducible apply Runs.skip)
    | (with_reducible apply Runs.inBlock)
    | (with_reducible apply Runs.scope)
    | (with_reducible apply Runs.inScope)
    | (with_reducible apply Runs.label)
    | ((with_reducible apply Runs.condT); (case ho => rfl))
    | ((with_reducible apply Runs.condF); (case ho => rfl))
    | ((with_reducible apply Runs.exit); (case he => rfl))
    | ((first | with_reducible apply ROps.cmp | with_reducible apply DOps.cmp); (case hop => exact cmpX); (case hw => rfl); (case hdst => rfl); (case hd => rfl); (all_goals (intro h; first | (replace H := ite_pos_ h H) | (replace H := ite_neg_ h H) | (replace H := dec_pos h H) | (replace H := dec_neg h H) | (replace H := dec_t h H) | (replace H := dec_f h H) | (replace H := ite_pos_ (Decidable.not_not.1 h) H) | ((try simp only [rd_T62, rdOf] at h); (try simp only [rd_T62, rdOf] at H); (rw [decide_eq_true h] at H)) | ((try simp only [rd_T62, rdOf] at h); (try simp only [rd_T62, rdOf] at H); (rw [decide_eq_false h] at H)) | ((try simp only [rd_T62, rdOf] at h); (try simp only [rd_T62, rdOf] at H); (rw [if_pos h] at H)) | ((try simp only [rd_T62, rdOf] at h); (try simp only [rd_T62, rdOf] at H); (rw [if_neg h] at H)) | contradiction | skip)))
    | ((first | with_reducible apply ROps.val | with_reducible apply DOps.val); (case hop => exact valX); (case hw => rfl); (case hdst => rfl); (case hd => rfl))
    | ((first | with_reducible apply ROps.idx | with_reducible apply DOps.idx); (case hop => rfl); (case hx => rfl); (case hi => rfl); (case he => rfl); (case hw => rfl); (case hdst => rfl); (case hd => rfl); (case h0 => first | assumption | omega); (case h1 => first | assumption | omega))
    | ((with_reducible apply ROps.box); (case hop => rfl); (case hx => rfl); (case hrf => rfl); (all_goals try rfl))
    | ((first | with_reducible apply ROps.off | with_reducible apply DOps.off); (case hw => rfl); (case hdst => rfl); (case hd => rfl))
    | ((with_reducible apply Runs.loopK1 ((fun i0 i1 i2 i3 i4 i5 i6 => fun kk (v0_3 : Int) => boarderref13_Pooled.l0 kk v0_3 i0 i1 i2 i3 i4 i5 i6) _ _ _ _ _ _ _) [1] [] (fun b v0_3 => [(3, .imm (.int .i64 v0_3))]) (fun v0_3 => []) _ _ [] H); (case h0 => intros; rfl); (any_goals (clear H; intro k0 hk0 ih0 v0_3 H; replace H : boarderref13_Pooled.l0 (k0 + 1) v0_3 _ _ _ _ _ _ _ = some _ := H; rw [boarderref13_Pooled.l0] at H)))
    | (with_reducible apply ih0 _ _ [] _ _ (by omega) H)
    | ((with_reducible apply Runs.loopK1 ((fun i0 i1 i2 i3 i4 i5 i6 i7 => fun kk (v1_4 : Int) => boarderref13_Pooled.l1 kk i0 v1_4 i1 i2 i3 i4 i5 i6 i7) _ _ _ _ _ _ _ _) [1, 3] [] (fun b v1_4 => [(4, .imm (.int .i64 v1_4))]) (fun v1_4 => []) _ _ [] H); (case h0 => intros; rfl); (any_goals (clear H; intro k1 hk1 ih1 v1_4 H; replace H : boarderref13_Pooled.l1 (k1 + 1) _ v1_4 _ _ _ _ _ _ _ = some _ := H; rw [boarderref13_Pooled.l1] at H)))
    | (with_reducible apply ih1 _ _ [] _ _ (by omega) H)
    | ((with_reducible apply Runs.retP tysOK); (case hrs => rfl); (case h => rfl); (case hr => (cases H; exact refX)); (case hx => rfl))
    | exact leRX)
end Go.Proofs.Ytdcabfonjmeajaa.PAlloc
set_option linter.unusedVariables false
set_option linter.unusedSimpArgs false
namespace Go.Proofs.Ytdcabfonjmeajaa.PAlloc
open Go.RowKit Go.Proofs.YtdcabfonjmeajaaW.PrintWords Go.Proofs.YtdcabfonjmeajaaW.PrintLast Go.Proofs.YtdcabfonjmeajaaW.PrintMore Go.Proofs.Ytdcabfonjmeajaa.Abs
/-! ### boarderref01_Meet: function 74 -/
def boarderref01_Meet.j0 : Nat → Int → Int → Int → Int → Bool → Option (Bool)
  | 0, _, _, _, _, _ => none
  | k + 1, x0, x1, x2, x3, x18 => if x18 = true then (some false) else ((boarderref01_Last.f k x2 x3).bind fun t375 => (if x0 ≤ t375 then ((boarderref01_Last.f k x0 x1).bind fun t376 => (some (decide (x2 ≤ t376)))) else (some false)))
def boarderref01_Meet.f (k : Nat) (a0 : Int) (a1 : Int) (a2 : Int) (a3 : Int) : Option (Bool) := (boarderref01_Fair.f k a0 a1).bind fun t373 => (if t373 = true then ((boarderref01_Fair.f k a2 a3).bind fun t374 => (boarderref01_Meet.j0 k a0 a1 a2 a3 (!t374))) else (boarderref01_Meet.j0 k a0 a1 a2 a3 true))
noncomputable def boarderref01_Meet.cx : Cx := ⟨Try.prog, tys, glo, 31, Try.f74, [.tmp 8]⟩
set_option maxHeartbeats 16000000 in
set_option maxRecDepth 100000 in
theorem boarderref01_Meet.ok {k : Nat} {a0 : Int} {a1 : Int} {a2 : Int} {a3 : Int} {r0 : Bool} (H : boarderref01_Meet.f k a0 a1 a2 a3 = some r0) : CallOK Try.prog glo 74 [.imm (.int .i64 a0), .imm (.int .i64 a1), .imm (.int .i64 a2), .imm (.int .i64 a3)] (.imm (.bool r0)) := by
  unfold boarderref01_Meet.f at H
  refine CallOK.of (c := boarderref01_Meet.cx) Try.func74 (show (boarderref01_Meet.cx).fn.body = some _ from rfl) rfl rfl (Nat.le_of_ble_eq_true rfl) ?_
  repeat' (first
    | ((with_reducible have hJ : boarderref01_Meet.j0 k _ _ _ _ _ = some _ := H); clear hJ; (rcases k with _ | k); (rw [boarderref01_Meet.j0] at H; cases H); (rw [boarderref01_Meet.j0] at H))
    | ((with_reducible replace H := some_ite H); obtain ⟨_, H⟩ := H)
    | (with_reducible replace H := some_bind_ H)
    | (with_reducible replace H := true_ite H)
    | (with_reducible replace H := false_ite H)
    | ((with_reducible have hb := bool_ite H); clear H; rcases hb with ⟨e_, H⟩ | ⟨e_, H⟩ <;> subst e_)
    | ((with_reducible have hb := bool_iteN H); clear H; rcases hb with ⟨e_, H⟩ | ⟨e_, H⟩ <;> subst e_)
    | ((with_reducible apply ROps.pure); (case hop => rfl); (case hw => rfl); (case hdst => rfl); (case hd => rfl))
    | (with_reducible apply ROps.nil)
    | (with_reducible apply Runs.seq)
    | (with_reducible apply Runs.region tysOK)
    | (with_reducible apply Runs.skip)
    | (with_reducible apply Runs.scope)
    | (with_reducible apply Runs.inScope)
    | (with_reducible apply Runs.label)
    | ((with_reducible apply Runs.condT); (case ho => rfl))
    | ((with_reducible apply Runs.condF); (case ho => rfl))
    | ((with_reducible apply ROps.cmp); (case hop => exact cmpX); (case hw => rfl); (case hdst => rfl); (case hd => rfl); (all_goals (intro h; first | (replace H := ite_pos_ h H) | (replace H := ite_neg_ h H) | (replace H := dec_pos h H) | (replace H := dec_neg h H) | (replace H := dec_t h H) | (replace H := dec_f h H) | (replace H := ite_pos_ (Decidable.not_not.1 h) H) | ((try simp only [rdOf] at h); (try simp only [rdOf] at H); (rw [decide_eq_true h] at H)) | ((try simp only [rdOf] at h); (try simp only [rdOf] at H); (rw [decide_eq_false h] at H)) | ((try simp only [rdOf] at h); (try simp only [rdOf] at H); (rw [if_pos h] at H)) | ((try simp only [rdOf] at h); (try simp only [rdOf] at H); (rw [if_neg h] at H)) | contradiction | skip)))
    | ((with_reducible apply ROps.off); (case hw => rfl); (case hdst => rfl); (case hd => rfl))
    | ((with_reducible have hB : (boarderref01_Fair.f _ _ _).bind _ = some _ := H); clear hB; (replace H := bind_some' H); (obtain ⟨t_, H1, H⟩ := H); (try dsimp only at H); (with_reducible apply ROps.call); (case hop => rfl); (case hc => exact boarderref01_Fair.ok H1); (case ha => exact argsX); (case hw => rfl); (case hdst => rfl); (case hd => rfl))
    | ((with_reducible have hB : (boarderref01_Last.f _ _ _).bind _ = some _ := H); clear hB; (replace H := bind_some' H); (obtain ⟨t_, H1, H⟩ := H); (try dsimp only at H); (with_reducible apply ROps.call); (case hop => rfl); (case hc => exact boarderref01_Last.ok H1); (case ha => exact argsX); (case hw => rfl); (case hdst => rfl); (case hd => rfl))
    | ((with_reducible apply Runs.retP tysOK); (case hrs => rfl); (case h => rfl); (case hr => (cases H; exact refX)); (case hx => rfl))
    | exact leRX)
end Go.Proofs.Ytdcabfonjmeajaa.PAlloc
set_option linter.unusedVariables false
set_option linter.unusedSimpArgs false
namespace Go.Proofs.Ytdcabfonjmeajaa.PAlloc
open Go.RowKit Go.Proofs.YtdcabfonjmeajaaW.PrintWords Go.Proofs.YtdcabfonjmeajaaW.PrintLast Go.Proofs.YtdcabfonjmeajaaW.PrintMore Go.Proofs.Ytdcabfonjmeajaa.Abs
/-! ### boarderref13_Twice: function 45 -/
mutual
def boarderref13_Twice.l0 : Nat → List (S57) → List Int → List (S59) → List Int → Int → Option (Bool)
  | 0, _, _, _, _, _ => none
  | k + 1, x3, x4, x5, x6, x7 => if x7 < (x3.length : Int) then (if 0 ≤ x7 then ((boarderref13_Pooled.f k ((rd_T57 x3 x7).f0) ((rd_T57 x3 x7).f1) ((rd_T57 x3 x7).f2) ((rd_T57 x3 x7).f3) ((rd_T57 x3 x7).f4) ((rd_T57 x3 x7).f5) ((rd_T57 x3 x7).f6)).bind fun t385 => (if t385 = true then (some true) else (boarderref13_Twice.l1 k x3 x4 x5 x6 x7 0))) else (none)) else (boarderref13_Twice.l3 k x5 x6 0)
def boarderref13_Twice.l1 : Nat → List (S57) → List Int → List (S59) → List Int → Int → Int → Option (Bool)
  | 0, _, _, _, _, _, _ => none
  | k + 1, x3, x4, x5, x6, x7, x8 => if x8 < x7 then (if 0 ≤ x7 then (if x7 < (x3.length : Int) then (if 0 ≤ x8 then (if x8 < (x3.length : Int) then ((boarderref01_Meet.f k ((rd_T57 x3 x7).f0) ((rd_T57 x3 x7).f1) ((rd_T57 x3 x8).f0) ((rd_T57 x3 x8).f1)).bind fun t390 => (if t390 = true then (some true) else (if x7 < (x4.length : Int) then (if x8 < (x4.length : Int) then (if (rd x4 x7) = (rd x4 x8) then (boarderref13_Twice.l1 k x3 x4 x5 x6 x7 (wrap64 (x8 + 1))) else (if ((rd_T57 x3 x7).f4) > 0 then (if ((rd_T57 x3 x7).f4) = ((rd_T57 x3 x8).f4) then (some true) else (boarderref13_Twice.l1 k x3 x4 x5 x6 x7 (wrap64 (x8 + 1)))) else (boarderref13_Twice.l1 k x3 x4 x5 x6 x7 (wrap64 (x8 + 1))))) else (none)) else (none)))) else (none)) else (none)) else (none)) else (none)) else (boarderref13_Twice.l2 k x3 x4 x5 x6 x7 0)
def boarderref13_Twice.l2 : Nat → List (S57) → List Int → List (S59) → List Int → Int → Int → Option (Bool)
  | 0, _, _, _, _, _, _ => none
  | k + 1, x3, x4, x5, x6, x7, x9 => if 0 ≤ x7 then (if x7 < (x3.length : Int) then (if x9 < (((rd_T57 x3 x7).f3).length : Int) then (if 0 ≤ x9 then (if x5.length < 5864062014805 then (if x7 < (x4.length : Int) then (if x6.length < 17592186044416 then (boarderref13_Twice.l2 k x3 x4 (x5 ++ [(⟨(rd_T59 ((rd_T57 x3 x7).f3) x9).f0, (rd_T59 ((rd_T57 x3 x7).f3) x9).f1⟩ : S59)]) (x6 ++ [rd x4 x7]) x7 (wrap64 (x9 + 1))) else (none)) else (none)) else (none)) else (none)) else (boarderref13_Twice.l0 k x3 x4 x5 x6 (wrap64 (x7 + 1)))) else (none)) else (none)
def boarderref13_Twice.l3 : Nat → List (S59) → List Int → Int → Option (Bool)
  | 0, _, _, _ => none
  | k + 1, x5, x6, x10 => if x10 < (x5.length : Int) then (boarderref13_Twice.l4 k x5 x6 x10 0) else (some false)
def boarderref13_Twice.l4 : Nat → List (S59) → List Int → Int → Int → Option (Bool)
  | 0, _, _, _, _ => none
  | k + 1, x5, x6, x10, x11 => if x11 < x10 then (if 0 ≤ x10 then (if x10 < (x5.length : Int) then (if 0 ≤ x11 then (if x11 < (x5.length : Int) then (if ((rd_T59 x5 x10).f1) = ((rd_T59 x5 x11).f1) then (some true) else (if x10 < (x6.length : Int) then (if x11 < (x6.length : Int) then (if (rd x6 x10) = (rd x6 x11) then (if ((rd_T59 x5 x10).f0).toList = ((rd_T59 x5 x11).f0).toList then (some true) else (boarderref13_Twice.l4 k x5 x6 x10 (wrap64 (x11 + 1)))) else (boarderref13_Twice.l4 k x5 x6 x10 (wrap64 (x11 + 1)))) else (none)) else (none))) else (none)) else (none)) else (none)) else (none)) else (boarderref13_Twice.l3 k x5 x6 (wrap64 (x10 + 1)))
end
def boarderref13_Twice.f (k : Nat) (a0_0 : Int) (a0_1 : Int) (l0_2 : List (S41)) : Option (Bool) := (boarderref13_Flat.f k a0_0 a0_1 l0_2).bind fun bt378 => (boarderref13_Twice.l0 k bt378.1 bt378.2 ([] : List (S59)) ([] : List Int) 0)
noncomputable def boarderref13_Twice.cx : Cx := ⟨Try.prog, tys, glo, 158, Try.f45, [.tmp 2]⟩
set_option maxHeartbeats 16000000 in
set_option maxRecDepth 100000 in
theorem boarderref13_Twice.ok {k : Nat} {a0_0 : Int} {a0_1 : Int} {l0_2 : List (S41)} {r0 : Bool} (H : boarderref13_Twice.f k a0_0 a0_1 l0_2 = some r0) : CallOK Try.prog glo 45 [.agg [.imm (.int .i64 a0_0), .imm (.int .i64 a0_1), vS41 l0_2]] (.imm (.bool r0)) := by
  unfold boarderref13_Twice.f at H
  refine CallOK.of (c := boarderref13_Twice.cx) Try.func45 (show (boarderref13_Twice.cx).fn.body = some _ from rfl) rfl rfl (Nat.le_of_ble_eq_true rfl) ?_
  repeat' (first
    | ((with_reducible replace H := some_ite H); obtain ⟨_, H⟩ := H)
    | (with_reducible replace H := true_ite H)
    | (with_reducible replace H := false_ite H)
    | ((with_reducible have hb := bool_ite H); clear H; rcases hb with ⟨e_, H⟩ | ⟨e_, H⟩ <;> subst e_)
    | ((first | with_reducible apply ROps.pure | with_reducible apply DOps.pure); (case hop => rfl); (case hw => rfl); (case hdst => rfl); (case hd => rfl))
    | (first | with_reducible apply ROps.nil | with_reducible apply DOps.nil)
    | (with_reducible apply Runs.seq)
    | (with_reducible apply Runs.region tysOK)
    | ((with_reducible apply Runs.drawn tysOK mixed); (case hB => kernel_rfl))
    | (with_reducible apply Runs.block)
    | (with_reducible apply Runs.skip)
    | (with_reducible apply Runs.inBlock)
    | (with_reducible apply Runs.scope)
    | (with_reducible apply Runs.inScope)
    | (with_reducible apply Runs.label)
    | ((with_reducible apply Runs.condT); (case ho => rfl))
    | ((with_reducible apply Runs.condF); (case ho => rfl))
    | ((with_reducible apply Runs.exit); (case he => rfl))
    | ((first | with_reducible apply ROps.cmp | with_reducible apply DOps.cmp); (case hop => exact cmpX); (case hw => rfl); (case hdst => rfl); (case hd => rfl); (all_goals (intro h; first | (replace H := ite_pos_ h H) | (replace H := ite_neg_ h H) | (replace H := dec_pos h H) | (replace H := dec_neg h H) | (replace H := dec_t h H) | (replace H := dec_f h H) | (replace H := beq_pos h H) | (replace H := beq_neg h H) | (replace H := beq_tt h H) | (replace H := beq_ff h H) | (replace H := ite_pos_ (Decidable.not_not.1 h) H) | (replace H := beq_pos (Decidable.not_not.1 h) H) | (replace H := beq_tt (Decidable.not_not.1 h) H) | ((try simp only [rd_T57, rd_T59, rdOf] at h); (try simp only [rd_T57, rd_T59, rdOf] at H); (rw [decide_eq_true h] at H)) | ((try simp only [rd_T57, rd_T59, rdOf] at h); (try simp only [rd_T57, rd_T59, rdOf] at H); (rw [decide_eq_false h] at H)) | ((try simp only [rd_T57, rd_T59, rdOf] at h); (try simp only [rd_T57, rd_T59, rdOf] at H); (rw [beq_t h] at H)) | ((try simp only [rd_T57, rd_T59, rdOf] at h); (try simp only [rd_T57, rd_T59, rdOf] at H); (rw [beq_f h] at H)) | ((try simp only [rd_T57, rd_T59, rdOf] at h); (try simp only [rd_T57, rd_T59, rdOf] at H); (rw [bne_t h] at H)) | ((try simp only [rd_T57, rd_T59, rdOf] at h); (try simp only [rd_T57, rd_T59, rdOf] at H); (rw [bne_f h] at H)) | ((try simp only [rd_T57, rd_T59, rdOf] at h); (try simp only [rd_T57, rd_T59, rdOf] at H); (rw [beq_t (Decidable.not_not.1 h)] at H)) | ((try simp only [rd_T57, rd_T59, rdOf] at h); (try simp only [rd_T57, rd_T59, rdOf] at H); (rw [bne_f (Decidable.not_not.1 h)] at H)) | ((try simp only [rd_T57, rd_T59, rdOf] at h); (try simp only [rd_T57, rd_T59, rdOf] at H); (rw [if_pos h] at H)) | ((try simp only [rd_T57, rd_T59, rdOf] at h); (try simp only [rd_T57, rd_T59, rdOf] at H); (rw [if_neg h] at H)) | contradiction | skip)))
    | ((first | with_reducible apply ROps.val | with_reducible apply DOps.val); (case hop => exact valX); (case hw => rfl); (case hdst => rfl); (case hd => rfl))
    | ((first | with_reducible apply ROps.idx | with_reducible apply DOps.idx); (case hop => rfl); (case hx => rfl); (case hi => rfl); (case he => rfl); (case hw => rfl); (case hdst => rfl); (case hd => rfl); (case h0 => first | assumption | omega); (case h1 => first | assumption | omega))
    | ((with_reducible apply ROps.box); (case hop => rfl); (case hx => rfl); (case hrf => rfl); (all_goals try rfl))
    | ((with_reducible apply ROps.lit); (case hop => rfl); (case hti => rfl); (case hsz => rfl); (case hl => rfl); (case hrf => rfl); (all_goals try rfl))
    | ((with_reducible apply ROps.app); (case hop => rfl); (case hti => rfl); (case hsz => rfl); (case hs => rfl); (case hR => rfl); (case hx => rfl); (case hb => constructor <;> ((try simp only [maxLen, List.length_nil, List.length_cons, List.length_append] at *); omega)); (all_goals try rfl))
    | ((with_reducible apply ROps.appN); (case hop => rfl); (case hti => rfl); (case hsz => rfl); (case hs => rfl); (case hx => rfl); (case hb => constructor <;> ((try simp only [maxLen, List.length_nil, List.length_cons, List.length_append] at *); omega)); (all_goals try rfl))
    | ((first | with_reducible apply ROps.off | with_reducible apply DOps.off); (case hw => rfl); (case hdst => rfl); (case hd => rfl))
    | ((with_reducible have hB : (boarderref13_Flat.f _ _ _ _).bind _ = some _ := H); clear hB; (replace H := bind_some' H); (obtain ⟨⟨t_0, t_1⟩, H1, H⟩ := H); (try dsimp only at H); (first | with_reducible apply ROps.call | with_reducible apply DOps.call); (case hop => rfl); (case hc => exact boarderref13_Flat.ok H1); (case ha => exact argsX); (case hw => rfl); (case hdst => rfl); (case hd => rfl))
    | ((with_reducible have hB : (boarderref13_Pooled.f _ _ _ _ _ _ _ _).bind _ = some _ := H); clear hB; (replace H := bind_some' H); (obtain ⟨t_, H1, H⟩ := H); (try dsimp only at H); (first | with_reducible apply ROps.call | with_reducible apply DOps.call); (case hop => rfl); (case hc => exact boarderref13_Pooled.ok H1); (case ha => exact argsX); (case hw => rfl); (case hdst => rfl); (case hd => rfl))
    | ((with_reducible have hB : (boarderref01_Meet.f _ _ _ _ _).bind _ = some _ := H); clear hB; (replace H := bind_some' H); (obtain ⟨t_, H1, H⟩ := H); (try dsimp only at H); (first | with_reducible apply ROps.call | with_reducible apply DOps.call); (case hop => rfl); (case hc => exact boarderref01_Meet.ok H1); (case ha => exact argsX); (case hw => rfl); (case hdst => rfl); (case hd => rfl))
    | ((with_reducible apply Runs.loopK3 ((fun i0 i1 => fun kk (v0_5 : List (S59)) (v0_6 : List Int) (v0_7 : Int) => boarderref13_Twice.l0 kk i0 i1 v0_5 v0_6 v0_7) _ _) [3, 4] [] (fun b v0_5 v0_6 v0_7 => [(5, .own (b + 0) (v0_5).length 2 (rowsE eS59 z59 v0_5)), (6, .own (b + 1) (v0_6).length 1 (rowsE (eInt .i64) 0 v0_6)), (7, .imm (.int .i64 v0_7))]) (fun v0_5 v0_6 v0_7 => [.arr 59 2 (v0_5).length, .arr 3 1 (v0_6).length]) _ _ _ _ [_, _] H); (case h0 => intros; rfl); (any_goals (clear H; intro k0 hk0 ih0 v0_5 v0_6 v0_7 H; replace H : boarderref13_Twice.l0 (k0 + 1) _ _ v0_5 v0_6 v0_7 = some _ := H; rw [boarderref13_Twice.l0] at H)))
    | (with_reducible apply ih0 _ _ _ _ [_, _] _ _ (by omega) H)
    | ((with_reducible apply Runs.loopK3 ((fun i0 i1 i2 => fun kk (v1_5 : List (S59)) (v1_6 : List Int) (v1_8 : Int) => boarderref13_Twice.l1 kk i0 i1 v1_5 v1_6 i2 v1_8) _ _ _) [3, 4, 7] [] (fun b v1_5 v1_6 v1_8 => [(5, .own (b + 0) (v1_5).length 2 (rowsE eS59 z59 v1_5)), (6, .own (b + 1) (v1_6).length 1 (rowsE (eInt .i64) 0 v1_6)), (8, .imm (.int .i64 v1_8))]) (fun v1_5 v1_6 v1_8 => [.arr 59 2 (v1_5).length, .arr 3 1 (v1_6).length]) _ _ _ _ [_, _] H); (case h0 => intros; rfl); (any_goals (clear H; intro k1 hk1 ih1 v1_5 v1_6 v1_8 H; replace H : boarderref13_Twice.l1 (k1 + 1) _ _ v1_5 v1_6 _ v1_8 = some _ := H; rw [boarderref13_Twice.l1] at H)))
    | (with_reducible apply ih1 _ _ _ _ [_, _] _ _ (by omega) H)
    | ((with_reducible apply Runs.loopK3 ((fun i0 i1 i2 => fun kk (v2_5 : List (S59)) (v2_6 : List Int) (v2_9 : Int) => boarderref13_Twice.l2 kk i0 i1 v2_5 v2_6 i2 v2_9) _ _ _) [3, 4, 7] [] (fun b v2_5 v2_6 v2_9 => [(5, .own (b + 0) (v2_5).length 2 (rowsE eS59 z59 v2_5)), (6, .own (b + 1) (v2_6).length 1 (rowsE (eInt .i64) 0 v2_6)), (9, .imm (.int .i64 v2_9))]) (fun v2_5 v2_6 v2_9 => [.arr 59 2 (v2_5).length, .arr 3 1 (v2_6).length]) _ _ _ _ [_, _] H); (case h0 => intros; rfl); (any_goals (clear H; intro k2 hk2 ih2 v2_5 v2_6 v2_9 H; replace H : boarderref13_Twice.l2 (k2 + 1) _ _ v2_5 v2_6 _ v2_9 = some _ := H; rw [boarderref13_Twice.l2] at H)))
    | (with_reducible apply ih2 _ _ _ _ [_, _] _ _ (by omega) H)
    | ((with_reducible apply Runs.loopK3 ((fun kk (v3_5 : List (S59)) (v3_6 : List Int) (v3_10 : Int) => boarderref13_Twice.l3 kk v3_5 v3_6 v3_10)) [] [] (fun b v3_5 v3_6 v3_10 => [(5, .own (b + 0) (v3_5).length 2 (rowsE eS59 z59 v3_5)), (6, .own (b + 1) (v3_6).length 1 (rowsE (eInt .i64) 0 v3_6)), (10, .imm (.int .i64 v3_10))]) (fun v3_5 v3_6 v3_10 => [.arr 59 2 (v3_5).length, .arr 3 1 (v3_6).length]) _ _ _ _ [_, _] H); (case h0 => intros; rfl); (any_goals (clear H; intro k3 hk3 ih3 v3_5 v3_6 v3_10 H; replace H : boarderref13_Twice.l3 (k3 + 1) v3_5 v3_6 v3_10 = some _ := H; rw [boarderref13_Twice.l3] at H)))
    | (with_reducible apply ih3 _ _ _ _ [_, _] _ _ (by omega) H)
    | ((with_reducible apply Runs.loopK3 ((fun i0 => fun kk (v4_5 : List (S59)) (v4_6 : List Int) (v4_11 : Int) => boarderref13_Twice.l4 kk v4_5 v4_6 i0 v4_11) _) [10] [] (fun b v4_5 v4_6 v4_11 => [(5, .own (b + 0) (v4_5).length 2 (rowsE eS59 z59 v4_5)), (6, .own (b + 1) (v4_6).length 1 (rowsE (eInt .i64) 0 v4_6)), (11, .imm (.int .i64 v4_11))]) (fun v4_5 v4_6 v4_11 => [.arr 59 2 (v4_5).length, .arr 3 1 (v4_6).length]) _ _ _ _ [_, _] H); (case h0 => intros; rfl); (any_goals (clear H; intro k4 hk4 ih4 v4_5 v4_6 v4_11 H; replace H : boarderref13_Twice.l4 (k4 + 1) v4_5 v4_6 _ v4_11 = some _ := H; rw [boarderref13_Twice.l4] at H)))
    | (with_reducible apply ih4 _ _ _ _ [_, _] _ _ (by omega) H)
    | ((with_reducible apply Runs.retP tysOK); (case hrs => rfl); (case h => rfl); (case hr => (cases H; exact refX)); (case hx => rfl))
    | exact leRX)
end Go.Proofs.Ytdcabfonjmeajaa.PAlloc
set_option linter.unusedVariables false
set_option linter.unusedSimpArgs false
namespace Go.Proofs.Ytdcabfonjmeajaa.PAlloc
open Go.RowKit Go.Proofs.YtdcabfonjmeajaaW.PrintWords Go.Proofs.YtdcabfonjmeajaaW.PrintLast Go.Proofs.YtdcabfonjmeajaaW.PrintMore Go.Proofs.Ytdcabfonjmeajaa.Abs
/-! ### boarderref13_Check: function 17 -/
def boarderref13_Check.f (k : Nat) (a0_0 : Int) (a0_1 : Int) (l0_2 : List (S41)) : Option (Int) := (boarderref13_Form.f k a0_0 a0_1 l0_2).bind fun t413 => (if t413 = true then ((boarderref13_Places.f k a0_0 a0_1 l0_2).bind fun t414 => (if t414 = true then ((boarderref13_Twice.f k a0_0 a0_1 l0_2).bind fun t415 => (if t415 = true then (some 8) else (some 0))) else (some 9))) else (some 1))
noncomputable def boarderref13_Check.cx : Cx := ⟨Try.prog, tys, glo, 11, Try.f17, [.tmp 2]⟩
set_option maxHeartbeats 16000000 in
set_option maxRecDepth 100000 in
theorem boarderref13_Check.ok {k : Nat} {a0_0 : Int} {a0_1 : Int} {l0_2 : List (S41)} {r0 : Int} (H : boarderref13_Check.f k a0_0 a0_1 l0_2 = some r0) : CallOK Try.prog glo 17 [.agg [.imm (.int .i64 a0_0), .imm (.int .i64 a0_1), vS41 l0_2]] (.imm (.int .i64 r0)) := by
  unfold boarderref13_Check.f at H
  refine CallOK.of (c := boarderref13_Check.cx) Try.func17 (show (boarderref13_Check.cx).fn.body = some _ from rfl) rfl rfl (Nat.le_of_ble_eq_true rfl) ?_
  repeat' (first
    | ((with_reducible replace H := some_ite H); obtain ⟨_, H⟩ := H)
    | (with_reducible replace H := true_ite H)
    | (with_reducible replace H := false_ite H)
    | ((with_reducible have hb := bool_ite H); clear H; rcases hb with ⟨e_, H⟩ | ⟨e_, H⟩ <;> subst e_)
    | ((with_reducible apply ROps.pure); (case hop => rfl); (case hw => rfl); (case hdst => rfl); (case hd => rfl))
    | (with_reducible apply ROps.nil)
    | (with_reducible apply Runs.seq)
    | (with_reducible apply Runs.region tysOK)
    | (with_reducible apply Runs.skip)
    | (with_reducible apply Runs.scope)
    | (with_reducible apply Runs.inScope)
    | (with_reducible apply Runs.label)
    | ((with_reducible apply Runs.condT); (case ho => rfl))
    | ((with_reducible apply Runs.condF); (case ho => rfl))
    | ((with_reducible apply ROps.box); (case hop => rfl); (case hx => rfl); (case hrf => rfl); (all_goals try rfl))
    | ((with_reducible have hB : (boarderref13_Form.f _ _ _ _).bind _ = some _ := H); clear hB; (replace H := bind_some' H); (obtain ⟨t_, H1, H⟩ := H); (try dsimp only at H); (with_reducible apply ROps.call); (case hop => rfl); (case hc => exact boarderref13_Form.ok H1); (case ha => exact argsX); (case hw => rfl); (case hdst => rfl); (case hd => rfl))
    | ((with_reducible have hB : (boarderref13_Places.f _ _ _ _).bind _ = some _ := H); clear hB; (replace H := bind_some' H); (obtain ⟨t_, H1, H⟩ := H); (try dsimp only at H); (with_reducible apply ROps.call); (case hop => rfl); (case hc => exact boarderref13_Places.ok H1); (case ha => exact argsX); (case hw => rfl); (case hdst => rfl); (case hd => rfl))
    | ((with_reducible have hB : (boarderref13_Twice.f _ _ _ _).bind _ = some _ := H); clear hB; (replace H := bind_some' H); (obtain ⟨t_, H1, H⟩ := H); (try dsimp only at H); (with_reducible apply ROps.call); (case hop => rfl); (case hc => exact boarderref13_Twice.ok H1); (case ha => exact argsX); (case hw => rfl); (case hdst => rfl); (case hd => rfl))
    | ((with_reducible apply Runs.retP tysOK); (case hrs => rfl); (case h => rfl); (case hr => (cases H; exact refX)); (case hx => rfl))
    | exact leRX)
end Go.Proofs.Ytdcabfonjmeajaa.PAlloc
set_option linter.unusedVariables false
set_option linter.unusedSimpArgs false
namespace Go.Proofs.Ytdcabfonjmeajaa.PAlloc
open Go.RowKit Go.Proofs.YtdcabfonjmeajaaW.PrintWords Go.Proofs.YtdcabfonjmeajaaW.PrintLast Go.Proofs.YtdcabfonjmeajaaW.PrintMore Go.Proofs.Ytdcabfonjmeajaa.Abs
/-! ### boarderref13_KeptFor: function 19 -/
mutual
def boarderref13_KeptFor.j0 : Nat → Int → ByteArray → Bool → Int → Int → List (S41) → Option (Int × Bool)
  | 0, _, _, _, _, _, _ => none
  | k + 1, x1, x2, x24, x417000, x417001, x417002 => if x24 = true then (some (0, false)) else (if 0 ≤ x1 then (if x1 < (x417002.length : Int) then (boarderref13_KeptFor.l0 k x2 ((rd_T41 x417002 x1).f0) 0) else (none)) else (none))
def boarderref13_KeptFor.l0 : Nat → ByteArray → List (S57) → Int → Option (Int × Bool)
  | 0, _, _, _ => none
  | k + 1, x2, x8, x9 => if x9 < (x8.length : Int) then (boarderref13_KeptFor.l1 k x2 x8 x9 0) else (some (0, false))
def boarderref13_KeptFor.l1 : Nat → ByteArray → List (S57) → Int → Int → Option (Int × Bool)
  | 0, _, _, _, _ => none
  | k + 1, x2, x8, x9, x10 => if 0 ≤ x9 then (if x9 < (x8.length : Int) then (if x10 < (((rd_T57 x8 x9).f3).length : Int) then (if 0 ≤ x10 then (if ((rd_T59 ((rd_T57 x8 x9).f3) x10).f0).toList = x2.toList then (some ((rd_T59 ((rd_T57 x8 x9).f3) x10).f1, true)) else (boarderref13_KeptFor.l1 k x2 x8 x9 (wrap64 (x10 + 1)))) else (none)) else (boarderref13_KeptFor.l0 k x2 x8 (wrap64 (x9 + 1)))) else (none)) else (none)
end
def boarderref13_KeptFor.f (k : Nat) (a0_0 : Int) (a0_1 : Int) (l0_2 : List (S41)) (a1 : Int) (a2 : ByteArray) : Option (Int × Bool) := (boarderref13_Check.f k a0_0 a0_1 l0_2).bind fun t417 => (if t417 = 0 then (if a1 < 0 then (boarderref13_KeptFor.j0 k a1 a2 true a0_0 a0_1 l0_2) else (boarderref13_KeptFor.j0 k a1 a2 (decide (a1 ≥ (l0_2.length : Int))) a0_0 a0_1 l0_2)) else (boarderref13_KeptFor.j0 k a1 a2 true a0_0 a0_1 l0_2))
noncomputable def boarderref13_KeptFor.cx : Cx := ⟨Try.prog, tys, glo, 67, Try.f19, [.tmp 6, .tmp 7]⟩
set_option maxHeartbeats 16000000 in
set_option maxRecDepth 100000 in
theorem boarderref13_KeptFor.ok {k : Nat} {a0_0 : Int} {a0_1 : Int} {l0_2 : List (S41)} {a1 : Int} {a2 : ByteArray} {r0 : Int} {r1 : Bool} (H : boarderref13_KeptFor.f k a0_0 a0_1 l0_2 a1 a2 = some (r0, r1)) : CallOK Try.prog glo 19 [.agg [.imm (.int .i64 a0_0), .imm (.int .i64 a0_1), vS41 l0_2], .imm (.int .i64 a1), .imm (.string a2)] (.tup [.imm (.int .i64 r0), .imm (.bool r1)]) := by
  unfold boarderref13_KeptFor.f at H
  refine CallOK.of (c := boarderref13_KeptFor.cx) Try.func19 (show (boarderref13_KeptFor.cx).fn.body = some _ from rfl) rfl rfl (Nat.le_of_ble_eq_true rfl) ?_
  repeat' (first
    | ((with_reducible have hJ : boarderref13_KeptFor.j0 k _ _ _ _ _ _ = some _ := H); clear hJ; (rcases k with _ | k); (rw [boarderref13_KeptFor.j0] at H; cases H); (rw [boarderref13_KeptFor.j0] at H))
    | ((with_reducible have hJ : boarderref13_KeptFor.j0 k0 _ _ _ _ _ _ = some _ := H); clear hJ; (rcases k0 with _ | k0); (rw [boarderref13_KeptFor.j0] at H; cases H); (rw [boarderref13_KeptFor.j0] at H))
    | ((with_reducible have hJ : boarderref13_KeptFor.j0 k1 _ _ _ _ _ _ = some _ := H); clear hJ; (rcases k1 with _ | k1); (rw [boarderref13_KeptFor.j0] at H; cases H); (rw [boarderref13_KeptFor.j0] at H))
    | ((with_reducible replace H := some_ite H); obtain ⟨_, H⟩ := H)
    | (with_reducible replace H := true_ite H)
    | (with_reducible replace H := false_ite H)
    | ((with_reducible have hb := bool_ite H); clear H; rcases hb with ⟨e_, H⟩ | ⟨e_, H⟩ <;> subst e_)
    | ((with_reducible apply ROps.pure); (case hop => rfl); (case hw => rfl); (case hdst => rfl); (case hd => rfl))
    | (with_reducible apply ROps.nil)
    | (with_reducible apply Runs.seq)
    | (with_reducible apply Runs.region tysOK)
    | (with_reducible apply Runs.block)
    | (with_reducible apply Runs.skip)
    | (with_reducible apply Runs.inBlock)
    | (with_reducible apply Runs.scope)
    | (with_reducible apply Runs.inScope)
    | (with_reducible apply Runs.label)
    | ((with_reducible apply Runs.condT); (case ho => rfl))
    | ((with_reducible apply Runs.condF); (case ho => rfl))
    | ((with_reducible apply Runs.exit); (case he => rfl))
    | ((with_reducible apply ROps.cmp); (case hop => exact cmpX); (case hw => rfl); (case hdst => rfl); (case hd => rfl); (all_goals (intro h; first | (replace H := ite_pos_ h H) | (replace H := ite_neg_ h H) | (replace H := dec_pos h H) | (replace H := dec_neg h H) | (replace H := dec_t h H) | (replace H := dec_f h H) | (replace H := beq_pos h H) | (replace H := beq_neg h H) | (replace H := beq_tt h H) | (replace H := beq_ff h H) | (replace H := ite_pos_ (Decidable.not_not.1 h) H) | (replace H := beq_pos (Decidable.not_not.1 h) H) | (replace H := beq_tt (Decidable.not_not.1 h) H) | ((try simp only [rd_T41, rd_T57, rd_T59, rdOf] at h); (try simp only [rd_T41, rd_T57, rd_T59, rdOf] at H); (rw [decide_eq_true h] at H)) | ((try simp only [rd_T41, rd_T57, rd_T59, rdOf] at h); (try simp only [rd_T41, rd_T57, rd_T59, rdOf] at H); (rw [decide_eq_false h] at H)) | ((try simp only [rd_T41, rd_T57, rd_T59, rdOf] at h); (try simp only [rd_T41, rd_T57, rd_T59, rdOf] at H); (rw [beq_t h] at H)) | ((try simp only [rd_T41, rd_T57, rd_T59, rdOf] at h); (try simp only [rd_T41, rd_T57, rd_T59, rdOf] at H); (rw [beq_f h] at H)) | ((try simp only [rd_T41, rd_T57, rd_T59, rdOf] at h); (try simp only [rd_T41, rd_T57, rd_T59, rdOf] at H); (rw [bne_t h] at H)) | ((try simp only [rd_T41, rd_T57, rd_T59, rdOf] at h); (try simp only [rd_T41, rd_T57, rd_T59, rdOf] at H); (rw [bne_f h] at H)) | ((try simp only [rd_T41, rd_T57, rd_T59, rdOf] at h); (try simp only [rd_T41, rd_T57, rd_T59, rdOf] at H); (rw [beq_t (Decidable.not_not.1 h)] at H)) | ((try simp only [rd_T41, rd_T57, rd_T59, rdOf] at h); (try simp only [rd_T41, rd_T57, rd_T59, rdOf] at H); (rw [bne_f (Decidable.not_not.1 h)] at H)) | ((try simp only [rd_T41, rd_T57, rd_T59, rdOf] at h); (try simp only [rd_T41, rd_T57, rd_T59, rdOf] at H); (rw [if_pos h] at H)) | ((try simp only [rd_T41, rd_T57, rd_T59, rdOf] at h); (try simp only [rd_T41, rd_T57, rd_T59, rdOf] at H); (rw [if_neg h] at H)) | contradiction | skip)))
    | ((with_reducible apply ROps.val); (case hop => exact valX); (case hw => rfl); (case hdst => rfl); (case hd => rfl))
    | ((with_reducible apply ROps.idx); (case hop => rfl); (case hx => rfl); (case hi => rfl); (case he => rfl); (case hw => rfl); (case hdst => rfl); (case hd => rfl); (case h0 => first | assumption | omega); (case h1 => first | assumption | omega))
    | ((with_reducible apply ROps.box); (case hop => rfl); (case hx => rfl); (case hrf => rfl); (all_goals try rfl))
    | ((with_reducible apply ROps.off); (case hw => rfl); (case hdst => rfl); (case hd => rfl))
    | ((with_reducible have hB : (boarderref13_Check.f _ _ _ _).bind _ = some _ := H); clear hB; (replace H := bind_some' H); (obtain ⟨t_, H1, H⟩ := H); (try dsimp only at H); (with_reducible apply ROps.call); (case hop => rfl); (case hc => exact boarderref13_Check.ok H1); (case ha => exact argsX); (case hw => rfl); (case hdst => rfl); (case hd => rfl))
    | ((with_reducible apply Runs.loopK1 ((fun i0 i1 => fun kk (v0_9 : Int) => boarderref13_KeptFor.l0 kk i0 i1 v0_9) _ _) [2, 8] [] (fun b v0_9 => [(9, .imm (.int .i64 v0_9))]) (fun v0_9 => []) _ _ [] H); (case h0 => intros; rfl); (any_goals (clear H; intro k0 hk0 ih0 v0_9 H; replace H : boarderref13_KeptFor.l0 (k0 + 1) _ _ v0_9 = some _ := H; rw [boarderref13_KeptFor.l0] at H)))
    | (with_reducible apply ih0 _ _ [] _ _ (by omega) H)
    | ((with_reducible apply Runs.loopK1 ((fun i0 i1 i2 => fun kk (v1_10 : Int) => boarderref13_KeptFor.l1 kk i0 i1 i2 v1_10) _ _ _) [2, 8, 9] [] (fun b v1_10 => [(10, .imm (.int .i64 v1_10))]) (fun v1_10 => []) _ _ [] H); (case h0 => intros; rfl); (any_goals (clear H; intro k1 hk1 ih1 v1_10 H; replace H : boarderref13_KeptFor.l1 (k1 + 1) _ _ _ v1_10 = some _ := H; rw [boarderref13_KeptFor.l1] at H)))
    | (with_reducible apply ih1 _ _ [] _ _ (by omega) H)
    | ((with_reducible apply Runs.retP tysOK); (case hrs => rfl); (case h => rfl); (case hr => (cases H; exact refX)); (case hx => rfl))
    | exact leRX)
end Go.Proofs.Ytdcabfonjmeajaa.PAlloc
set_option linter.unusedVariables false
set_option linter.unusedSimpArgs false
namespace Go.Proofs.Ytdcabfonjmeajaa.PAlloc
open Go.RowKit Go.Proofs.YtdcabfonjmeajaaW.PrintWords Go.Proofs.YtdcabfonjmeajaaW.PrintLast Go.Proofs.YtdcabfonjmeajaaW.PrintMore Go.Proofs.Ytdcabfonjmeajaa.Abs
/-! ### boarderref13_Keeper: function 21 -/
mutual
def boarderref13_Keeper.l0 : Nat → Int → List (S57) → Int → Option (ByteArray × Bool)
  | 0, _, _, _ => none
  | k + 1, x1, x6, x8 => if x8 < (x6.length : Int) then (boarderref13_Keeper.l1 k x1 x6 x8 0) else (some ((⟨#[]⟩ : ByteArray), false))
def boarderref13_Keeper.l1 : Nat → Int → List (S57) → Int → Int → Option (ByteArray × Bool)
  | 0, _, _, _, _ => none
  | k + 1, x1, x6, x8, x9 => if 0 ≤ x8 then (if x8 < (x6.length : Int) then (if x9 < (((rd_T57 x6 x8).f3).length : Int) then (if 0 ≤ x9 then (if ((rd_T59 ((rd_T57 x6 x8).f3) x9).f1) = x1 then (some ((rd_T59 ((rd_T57 x6 x8).f3) x9).f0, true)) else (boarderref13_Keeper.l1 k x1 x6 x8 (wrap64 (x9 + 1)))) else (none)) else (boarderref13_Keeper.l0 k x1 x6 (wrap64 (x8 + 1)))) else (none)) else (none)
end
def boarderref13_Keeper.f (k : Nat) (a0_0 : Int) (a0_1 : Int) (l0_2 : List (S41)) (a1 : Int) : Option (ByteArray × Bool) := (boarderref13_Check.f k a0_0 a0_1 l0_2).bind fun t425 => (if t425 = 0 then ((boarderref13_Flat.f k a0_0 a0_1 l0_2).bind fun bt426 => (boarderref13_Keeper.l0 k a1 bt426.1 0)) else (some ((⟨#[]⟩ : ByteArray), false)))
noncomputable def boarderref13_Keeper.cx : Cx := ⟨Try.prog, tys, glo, 54, Try.f21, [.tmp 4, .tmp 5]⟩
set_option maxHeartbeats 16000000 in
set_option maxRecDepth 100000 in
theorem boarderref13_Keeper.ok {k : Nat} {a0_0 : Int} {a0_1 : Int} {l0_2 : List (S41)} {a1 : Int} {r0 : ByteArray} {r1 : Bool} (H : boarderref13_Keeper.f k a0_0 a0_1 l0_2 a1 = some (r0, r1)) : CallOK Try.prog glo 21 [.agg [.imm (.int .i64 a0_0), .imm (.int .i64 a0_1), vS41 l0_2], .imm (.int .i64 a1)] (.tup [.imm (.string r0), .imm (.bool r1)]) := by
  unfold boarderref13_Keeper.f at H
  refine CallOK.of (c := boarderref13_Keeper.cx) Try.func21 (show (boarderref13_Keeper.cx).fn.body = some _ from rfl) rfl rfl (Nat.le_of_ble_eq_true rfl) ?_
  repeat' (first
    | ((with_reducible replace H := some_ite H); obtain ⟨_, H⟩ := H)
    | (with_reducible replace H := true_ite H)
    | (with_reducible replace H := false_ite H)
    | ((with_reducible have hb := bool_ite H); clear H; rcases hb with ⟨e_, H⟩ | ⟨e_, H⟩ <;> subst e_)
    | ((with_reducible apply ROps.pure); (case hop => rfl); (case hw => rfl); (case hdst => rfl); (case hd => rfl))
    | (with_reducible apply ROps.nil)
    | (with_reducible apply Runs.seq)
    | (with_reducible apply Runs.region tysOK)
    | (with_reducible apply Runs.block)
    | (with_reducible apply Runs.skip)
    | (with_reducible apply Runs.inBlock)
    | (with_reducible apply Runs.scope)
    | (with_reducible apply Runs.inScope)
    | (with_reducible apply Runs.label)
    | ((with_reducible apply Runs.condT); (case ho => rfl))
    | ((with_reducible apply Runs.condF); (case ho => rfl))
    | ((with_reducible apply Runs.exit); (case he => rfl))
    | ((with_reducible apply ROps.cmp); (case hop => exact cmpX); (case hw => rfl); (case hdst => rfl); (case hd => rfl); (all_goals (intro h; first | (replace H := ite_pos_ h H) | (replace H := ite_neg_ h H) | (replace H := dec_pos h H) | (replace H := dec_neg h H) | (replace H := dec_t h H) | (replace H := dec_f h H) | (replace H := beq_pos h H) | (replace H := beq_neg h H) | (replace H := beq_tt h H) | (replace H := beq_ff h H) | (replace H := ite_pos_ (Decidable.not_not.1 h) H) | (replace H := beq_pos (Decidable.not_not.1 h) H) | (replace H := beq_tt (Decidable.not_not.1 h) H) | ((try simp only [rd_T57, rd_T59, rdOf] at h); (try simp only [rd_T57, rd_T59, rdOf] at H); (rw [decide_eq_true h] at H)) | ((try simp only [rd_T57, rd_T59, rdOf] at h); (try simp only [rd_T57, rd_T59, rdOf] at H); (rw [decide_eq_false h] at H)) | ((try simp only [rd_T57, rd_T59, rdOf] at h); (try simp only [rd_T57, rd_T59, rdOf] at H); (rw [beq_t h] at H)) | ((try simp only [rd_T57, rd_T59, rdOf] at h); (try simp only [rd_T57, rd_T59, rdOf] at H); (rw [beq_f h] at H)) | ((try simp only [rd_T57, rd_T59, rdOf] at h); (try simp only [rd_T57, rd_T59, rdOf] at H); (rw [bne_t h] at H)) | ((try simp only [rd_T57, rd_T59, rdOf] at h); (try simp only [rd_T57, rd_T59, rdOf] at H); (rw [bne_f h] at H)) | ((try simp only [rd_T57, rd_T59, rdOf] at h); (try simp only [rd_T57, rd_T59, rdOf] at H); (rw [beq_t (Decidable.not_not.1 h)] at H)) | ((try simp only [rd_T57, rd_T59, rdOf] at h); (try simp only [rd_T57, rd_T59, rdOf] at H); (rw [bne_f (Decidable.not_not.1 h)] at H)) | ((try simp only [rd_T57, rd_T59, rdOf] at h); (try simp only [rd_T57, rd_T59, rdOf] at H); (rw [if_pos h] at H)) | ((try simp only [rd_T57, rd_T59, rdOf] at h); (try simp only [rd_T57, rd_T59, rdOf] at H); (rw [if_neg h] at H)) | contradiction | skip)))
    | ((with_reducible apply ROps.val); (case hop => exact valX); (case hw => rfl); (case hdst => rfl); (case hd => rfl))
    | ((with_reducible apply ROps.idx); (case hop => rfl); (case hx => rfl); (case hi => rfl); (case he => rfl); (case hw => rfl); (case hdst => rfl); (case hd => rfl); (case h0 => first | assumption | omega); (case h1 => first | assumption | omega))
    | ((with_reducible apply ROps.box); (case hop => rfl); (case hx => rfl); (case hrf => rfl); (all_goals try rfl))
    | ((with_reducible have hB : (boarderref13_Check.f _ _ _ _).bind _ = some _ := H); clear hB; (replace H := bind_some' H); (obtain ⟨t_, H1, H⟩ := H); (try dsimp only at H); (with_reducible apply ROps.call); (case hop => rfl); (case hc => exact boarderref13_Check.ok H1); (case ha => exact argsX); (case hw => rfl); (case hdst => rfl); (case hd => rfl))
    | ((with_reducible have hB : (boarderref13_Flat.f _ _ _ _).bind _ = some _ := H); clear hB; (replace H := bind_some' H); (obtain ⟨⟨t_0, t_1⟩, H1, H⟩ := H); (try dsimp only at H); (with_reducible apply ROps.call); (case hop => rfl); (case hc => exact boarderref13_Flat.ok H1); (case ha => exact argsX); (case hw => rfl); (case hdst => rfl); (case hd => rfl))
    | ((with_reducible apply Runs.loopK1 ((fun i0 i1 => fun kk (v0_8 : Int) => boarderref13_Keeper.l0 kk i0 i1 v0_8) _ _) [1, 6] [] (fun b v0_8 => [(8, .imm (.int .i64 v0_8))]) (fun v0_8 => []) _ _ [] H); (case h0 => intros; rfl); (any_goals (clear H; intro k0 hk0 ih0 v0_8 H; replace H : boarderref13_Keeper.l0 (k0 + 1) _ _ v0_8 = some _ := H; rw [boarderref13_Keeper.l0] at H)))
    | (with_reducible apply ih0 _ _ [] _ _ (by omega) H)
    | ((with_reducible apply Runs.loopK1 ((fun i0 i1 i2 => fun kk (v1_9 : Int) => boarderref13_Keeper.l1 kk i0 i1 i2 v1_9) _ _ _) [1, 6, 8] [] (fun b v1_9 => [(9, .imm (.int .i64 v1_9))]) (fun v1_9 => []) _ _ [] H); (case h0 => intros; rfl); (any_goals (clear H; intro k1 hk1 ih1 v1_9 H; replace H : boarderref13_Keeper.l1 (k1 + 1) _ _ _ v1_9 = some _ := H; rw [boarderref13_Keeper.l1] at H)))
    | (with_reducible apply ih1 _ _ [] _ _ (by omega) H)
    | ((with_reducible apply Runs.retP tysOK); (case hrs => rfl); (case h => rfl); (case hr => (cases H; exact refX)); (case hx => rfl))
    | exact leRX)
end Go.Proofs.Ytdcabfonjmeajaa.PAlloc
set_option linter.unusedVariables false
set_option linter.unusedSimpArgs false
namespace Go.Proofs.Ytdcabfonjmeajaa.PAlloc
open Go.RowKit Go.Proofs.YtdcabfonjmeajaaW.PrintWords Go.Proofs.YtdcabfonjmeajaaW.PrintLast Go.Proofs.YtdcabfonjmeajaaW.PrintMore Go.Proofs.Ytdcabfonjmeajaa.Abs
/-! ### boarderref13_InPool: function 23 -/
mutual
def boarderref13_InPool.j0 : Nat → Int → Int → Bool → Int → Int → List (S41) → Option (Bool)
  | 0, _, _, _, _, _, _ => none
  | k + 1, x1, x2, x23, x438000, x438001, x438002 => if x23 = true then (some false) else (if 0 ≤ x1 then (if x1 < (x438002.length : Int) then (boarderref13_InPool.l0 k x2 ((rd_T41 x438002 x1).f0) 0) else (none)) else (none))
def boarderref13_InPool.l0 : Nat → Int → List (S57) → Int → Option (Bool)
  | 0, _, _, _ => none
  | k + 1, x2, x7, x8 => if x8 < (x7.length : Int) then (boarderref13_InPool.l1 k x2 x7 x8 0) else (some false)
def boarderref13_InPool.l1 : Nat → Int → List (S57) → Int → Int → Option (Bool)
  | 0, _, _, _, _ => none
  | k + 1, x2, x7, x8, x9 => if 0 ≤ x8 then (if x8 < (x7.length : Int) then (if x9 < (((rd_T57 x7 x8).f2).length : Int) then (if 0 ≤ x9 then (if x2 ≥ ((rd_T62 ((rd_T57 x7 x8).f2) x9).f0) then (if x2 ≤ ((rd_T62 ((rd_T57 x7 x8).f2) x9).f1) then (some true) else (boarderref13_InPool.l1 k x2 x7 x8 (wrap64 (x9 + 1)))) else (boarderref13_InPool.l1 k x2 x7 x8 (wrap64 (x9 + 1)))) else (none)) else (boarderref13_InPool.l0 k x2 x7 (wrap64 (x8 + 1)))) else (none)) else (none)
end
def boarderref13_InPool.f (k : Nat) (a0_0 : Int) (a0_1 : Int) (l0_2 : List (S41)) (a1 : Int) (a2 : Int) : Option (Bool) := (boarderref13_Check.f k a0_0 a0_1 l0_2).bind fun t438 => (if t438 = 0 then (if a1 < 0 then (boarderref13_InPool.j0 k a1 a2 true a0_0 a0_1 l0_2) else (boarderref13_InPool.j0 k a1 a2 (decide (a1 ≥ (l0_2.length : Int))) a0_0 a0_1 l0_2)) else (boarderref13_InPool.j0 k a1 a2 true a0_0 a0_1 l0_2))
noncomputable def boarderref13_InPool.cx : Cx := ⟨Try.prog, tys, glo, 70, Try.f23, [.tmp 6]⟩
set_option maxHeartbeats 16000000 in
set_option maxRecDepth 100000 in
theorem boarderref13_InPool.ok {k : Nat} {a0_0 : Int} {a0_1 : Int} {l0_2 : List (S41)} {a1 : Int} {a2 : Int} {r0 : Bool} (H : boarderref13_InPool.f k a0_0 a0_1 l0_2 a1 a2 = some r0) : CallOK Try.prog glo 23 [.agg [.imm (.int .i64 a0_0), .imm (.int .i64 a0_1), vS41 l0_2], .imm (.int .i64 a1), .imm (.int .i64 a2)] (.imm (.bool r0)) := by
  unfold boarderref13_InPool.f at H
  refine CallOK.of (c := boarderref13_InPool.cx) Try.func23 (show (boarderref13_InPool.cx).fn.body = some _ from rfl) rfl rfl (Nat.le_of_ble_eq_true rfl) ?_
  repeat' (first
    | ((with_reducible have hJ : boarderref13_InPool.j0 k _ _ _ _ _ _ = some _ := H); clear hJ; (rcases k with _ | k); (rw [boarderref13_InPool.j0] at H; cases H); (rw [boarderref13_InPool.j0] at H))
    | ((with_reducible have hJ : boarderref13_InPool.j0 k0 _ _ _ _ _ _ = some _ := H); clear hJ; (rcases k0 with _ | k0); (rw [boarderref13_InPool.j0] at H; cases H); (rw [boarderref13_InPool.j0] at H))
    | ((with_reducible have hJ : boarderref13_InPool.j0 k1 _ _ _ _ _ _ = some _ := H); clear hJ; (rcases k1 with _ | k1); (rw [boarderref13_InPool.j0] at H; cases H); (rw [boarderref13_InPool.j0] at H))
    | ((with_reducible replace H := some_ite H); obtain ⟨_, H⟩ := H)
    | (with_reducible replace H := true_ite H)
    | (with_reducible replace H := false_ite H)
    | ((with_reducible have hb := bool_ite H); clear H; rcases hb with ⟨e_, H⟩ | ⟨e_, H⟩ <;> subst e_)
    | ((with_reducible apply ROps.pure); (case hop => rfl); (case hw => rfl); (case hdst => rfl); (case hd => rfl))
    | (with_reducible apply ROps.nil)
    | (with_reducible apply Runs.seq)
    | (with_reducible apply Runs.region tysOK)
    | (with_reducible apply Runs.block)
    | (with_reducible apply Runs.skip)
    | (with_reducible apply Runs.inBlock)
    | (with_reducible apply Runs.scope)
    | (with_reducible apply Runs.inScope)
    | (with_reducible apply Runs.label)
    | ((with_reducible apply Runs.condT); (case ho => rfl))
    | ((with_reducible apply Runs.condF); (case ho => rfl))
    | ((with_reducible apply Runs.exit); (case he => rfl))
    | ((with_reducible apply ROps.cmp); (case hop => exact cmpX); (case hw => rfl); (case hdst => rfl); (case hd => rfl); (all_goals (intro h; first | (replace H := ite_pos_ h H) | (replace H := ite_neg_ h H) | (replace H := dec_pos h H) | (replace H := dec_neg h H) | (replace H := dec_t h H) | (replace H := dec_f h H) | (replace H := beq_pos h H) | (replace H := beq_neg h H) | (replace H := beq_tt h H) | (replace H := beq_ff h H) | (replace H := ite_pos_ (Decidable.not_not.1 h) H) | (replace H := beq_pos (Decidable.not_not.1 h) H) | (replace H := beq_tt (Decidable.not_not.1 h) H) | ((try simp only [rd_T41, rd_T57, rd_T62, rdOf] at h); (try simp only [rd_T41, rd_T57, rd_T62, rdOf] at H); (rw [decide_eq_true h] at H)) | ((try simp only [rd_T41, rd_T57, rd_T62, rdOf] at h); (try simp only [rd_T41, rd_T57, rd_T62, rdOf] at H); (rw [decide_eq_false h] at H)) | ((try simp only [rd_T41, rd_T57, rd_T62, rdOf] at h); (try simp only [rd_T41, rd_T57, rd_T62, rdOf] at H); (rw [beq_t h] at H)) | ((try simp only [rd_T41, rd_T57, rd_T62, rdOf] at h); (try simp only [rd_T41, rd_T57, rd_T62, rdOf] at H); (rw [beq_f h] at H)) | ((try simp only [rd_T41, rd_T57, rd_T62, rdOf] at h); (try simp only [rd_T41, rd_T57, rd_T62, rdOf] at H); (rw [bne_t h] at H)) | ((try simp only [rd_T41, rd_T57, rd_T62, rdOf] at h); (try simp only [rd_T41, rd_T57, rd_T62, rdOf] at H); (rw [bne_f h] at H)) | ((try simp only [rd_T41, rd_T57, rd_T62, rdOf] at h); (try simp only [rd_T41, rd_T57, rd_T62, rdOf] at H); (rw [beq_t (Decidable.not_not.1 h)] at H)) | ((try simp only [rd_T41, rd_T57, rd_T62, rdOf] at h); (try simp only [rd_T41, rd_T57, rd_T62, rdOf] at H); (rw [bne_f (Decidable.not_not.1 h)] at H)) | ((try simp only [rd_T41, rd_T57, rd_T62, rdOf] at h); (try simp only [rd_T41, rd_T57, rd_T62, rdOf] at H); (rw [if_pos h] at H)) | ((try simp only [rd_T41, rd_T57, rd_T62, rdOf] at h); (try simp only [rd_T41, rd_T57, rd_T62, rdOf] at H); (rw [if_neg h] at H)) | contradiction | skip)))
    | ((with_reducible apply ROps.val); (case hop => exact valX); (case hw => rfl); (case hdst => rfl); (case hd => rfl))
    | ((with_reducible apply ROps.idx); (case hop => rfl); (case hx => rfl); (case hi => rfl); (case he => rfl); (case hw => rfl); (case hdst => rfl); (case hd => rfl); (case h0 => first | assumption | omega); (case h1 => first | assumption | omega))
    | ((with_reducible apply ROps.box); (case hop => rfl); (case hx => rfl); (case hrf => rfl); (all_goals try rfl))
    | ((with_reducible apply ROps.off); (case hw => rfl); (case hdst => rfl); (case hd => rfl))
    | ((with_reducible have hB : (boarderref13_Check.f _ _ _ _).bind _ = some _ := H); clear hB; (replace H := bind_some' H); (obtain ⟨t_, H1, H⟩ := H); (try dsimp only at H); (with_reducible apply ROps.call); (case hop => rfl); (case hc => exact boarderref13_Check.ok H1); (case ha => exact argsX); (case hw => rfl); (case hdst => rfl); (case hd => rfl))
    | ((with_reducible apply Runs.loopK1 ((fun i0 i1 => fun kk (v0_8 : Int) => boarderref13_InPool.l0 kk i0 i1 v0_8) _ _) [2, 7] [] (fun b v0_8 => [(8, .imm (.int .i64 v0_8))]) (fun v0_8 => []) _ _ [] H); (case h0 => intros; rfl); (any_goals (clear H; intro k0 hk0 ih0 v0_8 H; replace H : boarderref13_InPool.l0 (k0 + 1) _ _ v0_8 = some _ := H; rw [boarderref13_InPool.l0] at H)))
    | (with_reducible apply ih0 _ _ [] _ _ (by omega) H)
    | ((with_reducible apply Runs.loopK1 ((fun i0 i1 i2 => fun kk (v1_9 : Int) => boarderref13_InPool.l1 kk i0 i1 i2 v1_9) _ _ _) [2, 7, 8] [] (fun b v1_9 => [(9, .imm (.int .i64 v1_9))]) (fun v1_9 => []) _ _ [] H); (case h0 => intros; rfl); (any_goals (clear H; intro k1 hk1 ih1 v1_9 H; replace H : boarderref13_InPool.l1 (k1 + 1) _ _ _ v1_9 = some _ := H; rw [boarderref13_InPool.l1] at H)))
    | (with_reducible apply ih1 _ _ [] _ _ (by omega) H)
    | ((with_reducible apply Runs.retP tysOK); (case hrs => rfl); (case h => rfl); (case hr => (cases H; exact refX)); (case hx => rfl))
    | exact leRX)
end Go.Proofs.Ytdcabfonjmeajaa.PAlloc
set_option linter.unusedVariables false
set_option linter.unusedSimpArgs false
namespace Go.Proofs.Ytdcabfonjmeajaa.PAlloc
open Go.RowKit Go.Proofs.YtdcabfonjmeajaaW.PrintWords Go.Proofs.YtdcabfonjmeajaaW.PrintLast Go.Proofs.YtdcabfonjmeajaaW.PrintMore Go.Proofs.Ytdcabfonjmeajaa.Abs
/-! ### boarderref09_Right: function 84 -/
def boarderref09_Right.f (a0_0 : Int) (a0_1 : Int) (a0_2 : Int) (a0_3 : ByteArray) : Option (Bool) := (boarderref01_Right.f a0_0).bind fun t446 => (if t446 = true then ((boarderref07_Right.f a0_3).bind fun t447 => (if t447 = true then (if a0_1 = 1 then (if a0_2 ≥ 0 then (some (decide (a0_2 ≤ 1125899906842624))) else (some false)) else (if a0_1 = 2 then (if a0_2 ≥ 0 then (some (decide (a0_2 ≤ 1125899906842624))) else (some false)) else (if a0_1 = 3 then (if a0_2 ≥ 0 then (some (decide (a0_2 ≤ 1125899906842624))) else (some false)) else (some false)))) else (some false))) else (some false))
noncomputable def boarderref09_Right.cx : Cx := ⟨Try.prog, tys, glo, 36, Try.f84, [.tmp 2]⟩
set_option maxHeartbeats 16000000 in
set_option maxRecDepth 100000 in
theorem boarderref09_Right.ok {a0_0 : Int} {a0_1 : Int} {a0_2 : Int} {a0_3 : ByteArray} {r0 : Bool} (H : boarderref09_Right.f a0_0 a0_1 a0_2 a0_3 = some r0) : CallOK Try.prog glo 84 [.agg [.imm (.int .i64 a0_0), .imm (.int .i64 a0_1), .imm (.int .i64 a0_2), .imm (.string a0_3)]] (.imm (.bool r0)) := by
  unfold boarderref09_Right.f at H
  refine CallOK.of (c := boarderref09_Right.cx) Try.func84 (show (boarderref09_Right.cx).fn.body = some _ from rfl) rfl rfl (Nat.le_of_ble_eq_true rfl) ?_
  repeat' (first
    | ((with_reducible replace H := some_ite H); obtain ⟨_, H⟩ := H)
    | (with_reducible replace H := some_bind_ H)
    | (with_reducible replace H := true_ite H)
    | (with_reducible replace H := false_ite H)
    | ((with_reducible have hb := bool_ite H); clear H; rcases hb with ⟨e_, H⟩ | ⟨e_, H⟩ <;> subst e_)
    | ((with_reducible apply ROps.pure); (case hop => rfl); (case hw => rfl); (case hdst => rfl); (case hd => rfl))
    | (with_reducible apply ROps.nil)
    | (with_reducible apply Runs.seq)
    | (with_reducible apply Runs.region tysOK)
    | (with_reducible apply Runs.skip)
    | (with_reducible apply Runs.scope)
    | (with_reducible apply Runs.inScope)
    | (with_reducible apply Runs.label)
    | ((with_reducible apply Runs.condT); (case ho => rfl))
    | ((with_reducible apply Runs.condF); (case ho => rfl))
    | ((with_reducible apply ROps.cmp); (case hop => exact cmpX); (case hw => rfl); (case hdst => rfl); (case hd => rfl); (all_goals (intro h; first | (replace H := ite_pos_ h H) | (replace H := ite_neg_ h H) | (replace H := dec_pos h H) | (replace H := dec_neg h H) | (replace H := dec_t h H) | (replace H := dec_f h H) | (replace H := beq_pos h H) | (replace H := beq_neg h H) | (replace H := beq_tt h H) | (replace H := beq_ff h H) | (replace H := ite_pos_ (Decidable.not_not.1 h) H) | (replace H := beq_pos (Decidable.not_not.1 h) H) | (replace H := beq_tt (Decidable.not_not.1 h) H) | ((try simp only [rdOf] at h); (try simp only [rdOf] at H); (rw [decide_eq_true h] at H)) | ((try simp only [rdOf] at h); (try simp only [rdOf] at H); (rw [decide_eq_false h] at H)) | ((try simp only [rdOf] at h); (try simp only [rdOf] at H); (rw [beq_t h] at H)) | ((try simp only [rdOf] at h); (try simp only [rdOf] at H); (rw [beq_f h] at H)) | ((try simp only [rdOf] at h); (try simp only [rdOf] at H); (rw [bne_t h] at H)) | ((try simp only [rdOf] at h); (try simp only [rdOf] at H); (rw [bne_f h] at H)) | ((try simp only [rdOf] at h); (try simp only [rdOf] at H); (rw [beq_t (Decidable.not_not.1 h)] at H)) | ((try simp only [rdOf] at h); (try simp only [rdOf] at H); (rw [bne_f (Decidable.not_not.1 h)] at H)) | ((try simp only [rdOf] at h); (try simp only [rdOf] at H); (rw [if_pos h] at H)) | ((try simp only [rdOf] at h); (try simp only [rdOf] at H); (rw [if_neg h] at H)) | contradiction | skip)))
    | ((with_reducible apply ROps.val); (case hop => exact valX); (case hw => rfl); (case hdst => rfl); (case hd => rfl))
    | ((with_reducible apply ROps.box); (case hop => rfl); (case hx => rfl); (case hrf => rfl); (all_goals try rfl))
    | ((with_reducible apply ROps.off); (case hw => rfl); (case hdst => rfl); (case hd => rfl))
    | ((with_reducible have hB : (boarderref07_Right.f _).bind _ = some _ := H); clear hB; (replace H := bind_some' H); (obtain ⟨t_, H1, H⟩ := H); (try dsimp only at H); (with_reducible apply ROps.call); (case hop => rfl); (case hc => exact boarderref07_Right.ok H1); (case ha => exact argsX); (case hw => rfl); (case hdst => rfl); (case hd => rfl))
    | ((with_reducible have hB : (boarderref01_Right.f _).bind _ = some _ := H); clear hB; (replace H := bind_some' H); (obtain ⟨t_, H1, H⟩ := H); (try dsimp only at H); (with_reducible apply ROps.call); (case hop => rfl); (case hc => exact boarderref01_Right.ok H1); (case ha => exact argsX); (case hw => rfl); (case hdst => rfl); (case hd => rfl))
    | ((with_reducible apply Runs.retP tysOK); (case hrs => rfl); (case h => rfl); (case hr => (cases H; exact refX)); (case hx => rfl))
    | exact leRX)
end Go.Proofs.Ytdcabfonjmeajaa.PAlloc
set_option linter.unusedVariables false
set_option linter.unusedSimpArgs false
namespace Go.Proofs.Ytdcabfonjmeajaa.PAlloc
open Go.RowKit Go.Proofs.YtdcabfonjmeajaaW.PrintWords Go.Proofs.YtdcabfonjmeajaaW.PrintLast Go.Proofs.YtdcabfonjmeajaaW.PrintMore Go.Proofs.Ytdcabfonjmeajaa.Abs
/-! ### boarderref12_Right: function 62 -/
def boarderref12_Right.l0 : Nat → List (S47) → Int → Option (Bool)
  | 0, _, _ => none
  | k + 1, x0, x3 => if x3 < (x0.length : Int) then (if 0 ≤ x3 then ((boarderref09_Right.f ((rd_T47 x0 x3).f0) ((rd_T47 x0 x3).f1) ((rd_T47 x0 x3).f2) ((rd_T47 x0 x3).f3)).bind fun t449 => (if t449 = true then (if (wrap64 (x3 + 1)) < (x0.length : Int) then (if 0 ≤ (wrap64 (x3 + 1)) then (if ((rd_T47 x0 (wrap64 (x3 + 1))).f0) ≤ ((rd_T47 x0 x3).f0) then (some false) else (boarderref12_Right.l0 k x0 (wrap64 (x3 + 1)))) else (none)) else (boarderref12_Right.l0 k x0 (wrap64 (x3 + 1)))) else (some false))) else (none)) else (some true)
def boarderref12_Right.f (k : Nat) (l0 : List (S47)) : Option (Bool) := if (l0.length : Int) > 64 then (some false) else (boarderref12_Right.l0 k l0 0)
def boarderref12_Right.T6 : Bool × List (List Nat × List Nat) := (true, [([], []), ([], []), ([0, 1], [0, 1]), ([2], [2]), ([3], [3]), ([4], [4]), ([5, 4], [5]), ([6], [6]), ([7, 6], [6, 7]), ([6], [6]), ([9, 6], [6, 9]), ([8, 10, 6], [6, 8, 10]), ([11, 6, 6], [6, 11]), ([12], [12]), ([12], [12]), ([14, 12], [12, 14]), ([13, 15, 12], [12, 13, 15]), ([16, 12], [12, 16]), ([17, 12], [12, 17]), ([12], [12]), ([12], [12]), ([19, 20, 12], [12, 19, 20]), ([21, 12], [12, 21]), ([22, 12], [12, 22]), ([18, 23, 12], [12, 18, 23]), ([12, 24, 6], [6, 12, 24]), ([6, 25], [6, 25])])
def boarderref12_Right.B6 : List Nat := [0, 0, 3, 7, 15, 31, 63, 127, 255, 127, 639, 2047, 4095, 8191, 8191, 24575, 65535, 131071, 262143, 8191, 8191, 1581055, 3678207, 7872511, 16777215, 33554431, 67108863]
noncomputable def boarderref12_Right.cx : Cx := ⟨Try.prog, tys, glo, 40, Try.f62, [.tmp 2]⟩
set_option maxHeartbeats 16000000 in
set_option maxRecDepth 100000 in
theorem boarderref12_Right.ok {k : Nat} {l0 : List (S47)} {r0 : Bool} (H : boarderref12_Right.f k l0 = some r0) : CallOK Try.prog glo 62 [vS47 l0] (.imm (.bool r0)) := by
  unfold boarderref12_Right.f at H
  refine CallOK.of (c := boarderref12_Right.cx) Try.func62 (show (boarderref12_Right.cx).fn.body = some _ from rfl) rfl rfl (Nat.le_of_ble_eq_true rfl) ?_
  repeat' (first
    | ((with_reducible replace H := some_ite H); obtain ⟨_, H⟩ := H)
    | (with_reducible replace H := true_ite H)
    | (with_reducible replace H := false_ite H)
    | ((with_reducible have hb := bool_ite H); clear H; rcases hb with ⟨e_, H⟩ | ⟨e_, H⟩ <;> subst e_)
    | ((first | with_reducible apply ROps.pure | with_reducible apply DOps.pure); (case hop => rfl); (case hw => rfl); (case hdst => rfl); (case hd => rfl))
    | (first | with_reducible apply ROps.nil | with_reducible apply DOps.nil)
    | (with_reducible apply Runs.seq)
    | (with_reducible apply Runs.region tysOK)
    | ((with_reducible apply Runs.drawn tysOK mixed); (case hB => kernel_rfl))
    | (with_reducible apply Runs.block)
    | (with_reducible apply Runs.skip)
    | (with_reducible apply Runs.inBlock)
    | (with_reducible apply Runs.scope)
    | (with_reducible apply Runs.inScope)
    | (with_reducible apply Runs.label)
    | ((with_reducible apply Runs.condT); (case ho => rfl))
    | ((with_reducible apply Runs.condF); (case ho => rfl))
    | ((with_reducible apply Runs.exit); (case he => rfl))
    | ((first | with_reducible apply ROps.cmp | with_reducible apply DOps.cmp); (case hop => exact cmpX); (case hw => rfl); (case hdst => rfl); (case hd => rfl); (all_goals (intro h; first | (replace H := ite_pos_ h H) | (replace H := ite_neg_ h H) | (replace H := dec_pos h H) | (replace H := dec_neg h H) | (replace H := dec_t h H) | (replace H := dec_f h H) | (replace H := ite_pos_ (Decidable.not_not.1 h) H) | ((try simp only [rd_T47, rdOf] at h); (try simp only [rd_T47, rdOf] at H); (rw [decide_eq_true h] at H)) | ((try simp only [rd_T47, rdOf] at h); (try simp only [rd_T47, rdOf] at H); (rw [decide_eq_false h] at H)) | ((try simp only [rd_T47, rdOf] at h); (try simp only [rd_T47, rdOf] at H); (rw [if_pos h] at H)) | ((try simp only [rd_T47, rdOf] at h); (try simp only [rd_T47, rdOf] at H); (rw [if_neg h] at H)) | contradiction | skip)))
    | ((first | with_reducible apply ROps.val | with_reducible apply DOps.val); (case hop => exact valX); (case hw => rfl); (case hdst => rfl); (case hd => rfl))
    | ((first | with_reducible apply ROps.idx | with_reducible apply DOps.idx); (case hop => rfl); (case hx => rfl); (case hi => rfl); (case he => rfl); (case hw => rfl); (case hdst => rfl); (case hd => rfl); (case h0 => first | assumption | omega); (case h1 => first | assumption | omega))
    | ((first | with_reducible apply ROps.off | with_reducible apply DOps.off); (case hw => rfl); (case hdst => rfl); (case hd => rfl))
    | ((with_reducible have hB : (boarderref09_Right.f _ _ _ _).bind _ = some _ := H); clear hB; (replace H := bind_some' H); (obtain ⟨t_, H1, H⟩ := H); (try dsimp only at H); (first | with_reducible apply ROps.call | with_reducible apply DOps.call); (case hop => rfl); (case hc => exact boarderref09_Right.ok H1); (case ha => exact argsX); (case hw => rfl); (case hdst => rfl); (case hd => rfl))
    | ((with_reducible apply Runs.loopK1 ((fun i0 => fun kk (v0_3 : Int) => boarderref12_Right.l0 kk i0 v0_3) _) [0] [] (fun b v0_3 => [(3, .imm (.int .i64 v0_3))]) (fun v0_3 => []) _ _ [] H); (case h0 => intros; rfl); (any_goals (clear H; intro k0 hk0 ih0 v0_3 H; replace H : boarderref12_Right.l0 (k0 + 1) _ v0_3 = some _ := H; rw [boarderref12_Right.l0] at H)))
    | (with_reducible apply ih0 _ _ [] _ _ (by omega) H)
    | ((with_reducible apply Runs.retP tysOK); (case hrs => rfl); (case h => rfl); (case hr => (cases H; exact refX)); (case hx => rfl))
    | exact leRX)
end Go.Proofs.Ytdcabfonjmeajaa.PAlloc
set_option linter.unusedVariables false
set_option linter.unusedSimpArgs false
namespace Go.Proofs.Ytdcabfonjmeajaa.PAlloc
open Go.RowKit Go.Proofs.YtdcabfonjmeajaaW.PrintWords Go.Proofs.YtdcabfonjmeajaaW.PrintLast Go.Proofs.YtdcabfonjmeajaaW.PrintMore Go.Proofs.Ytdcabfonjmeajaa.Abs
/-! ### boarderref15_Fair: function 38 -/
def boarderref15_Fair.f (k : Nat) (a0_0 : Int) (a0_1 : Int) (l0_2 : List (S41)) (l1 : List (S47)) (a2 : Int) (a3 : ByteArray) : Option (Bool) := (boarderref13_Check.f k a0_0 a0_1 l0_2).bind fun t453 => (if t453 = 0 then ((boarderref12_Right.f k l1).bind fun t454 => (if t454 = true then ((boarderref07_Right.f a3).bind fun t455 => (if t455 = true then (if a2 ≥ 0 then (some (decide (a2 < (l0_2.length : Int)))) else (some false)) else (some false))) else (some false))) else (some false))
noncomputable def boarderref15_Fair.cx : Cx := ⟨Try.prog, tys, glo, 31, Try.f38, [.tmp 8]⟩
set_option maxHeartbeats 16000000 in
set_option maxRecDepth 100000 in
theorem boarderref15_Fair.ok {k : Nat} {a0_0 : Int} {a0_1 : Int} {l0_2 : List (S41)} {l1 : List (S47)} {a2 : Int} {a3 : ByteArray} {r0 : Bool} (H : boarderref15_Fair.f k a0_0 a0_1 l0_2 l1 a2 a3 = some r0) : CallOK Try.prog glo 38 [.agg [.imm (.int .i64 a0_0), .imm (.int .i64 a0_1), vS41 l0_2], vS47 l1, .imm (.int .i64 a2), .imm (.string a3)] (.imm (.bool r0)) := by
  unfold boarderref15_Fair.f at H
  refine CallOK.of (c := boarderref15_Fair.cx) Try.func38 (show (boarderref15_Fair.cx).fn.body = some _ from rfl) rfl rfl (Nat.le_of_ble_eq_true rfl) ?_
  repeat' (first
    | ((with_reducible replace H := some_ite H); obtain ⟨_, H⟩ := H)
    | (with_reducible replace H := true_ite H)
    | (with_reducible replace H := false_ite H)
    | ((with_reducible have hb := bool_ite H); clear H; rcases hb with ⟨e_, H⟩ | ⟨e_, H⟩ <;> subst e_)
    | ((with_reducible apply ROps.pure); (case hop => rfl); (case hw => rfl); (case hdst => rfl); (case hd => rfl))
    | (with_reducible apply ROps.nil)
    | (with_reducible apply Runs.seq)
    | (with_reducible apply Runs.region tysOK)
    | (with_reducible apply Runs.scope)
    | (with_reducible apply Runs.inScope)
    | (with_reducible apply Runs.label)
    | ((with_reducible apply ROps.cmp); (case hop => exact cmpX); (case hw => rfl); (case hdst => rfl); (case hd => rfl); (all_goals (intro h; first | (replace H := ite_pos_ h H) | (replace H := ite_neg_ h H) | (replace H := dec_pos h H) | (replace H := dec_neg h H) | (replace H := dec_t h H) | (replace H := dec_f h H) | (replace H := beq_pos h H) | (replace H := beq_neg h H) | (replace H := beq_tt h H) | (replace H := beq_ff h H) | (replace H := ite_pos_ (Decidable.not_not.1 h) H) | (replace H := beq_pos (Decidable.not_not.1 h) H) | (replace H := beq_tt (Decidable.not_not.1 h) H) | ((try simp only [rdOf] at h); (try simp only [rdOf] at H); (rw [decide_eq_true h] at H)) | ((try simp only [rdOf] at h); (try simp only [rdOf] at H); (rw [decide_eq_false h] at H)) | ((try simp only [rdOf] at h); (try simp only [rdOf] at H); (rw [beq_t h] at H)) | ((try simp only [rdOf] at h); (try simp only [rdOf] at H); (rw [beq_f h] at H)) | ((try simp only [rdOf] at h); (try simp only [rdOf] at H); (rw [bne_t h] at H)) | ((try simp only [rdOf] at h); (try simp only [rdOf] at H); (rw [bne_f h] at H)) | ((try simp only [rdOf] at h); (try simp only [rdOf] at H); (rw [beq_t (Decidable.not_not.1 h)] at H)) | ((try simp only [rdOf] at h); (try simp only [rdOf] at H); (rw [bne_f (Decidable.not_not.1 h)] at H)) | ((try simp only [rdOf] at h); (try simp only [rdOf] at H); (rw [if_pos h] at H)) | ((try simp only [rdOf] at h); (try simp only [rdOf] at H); (rw [if_neg h] at H)) | contradiction | skip)))
    | ((with_reducible apply ROps.val); (case hop => exact valX); (case hw => rfl); (case hdst => rfl); (case hd => rfl))
    | ((with_reducible apply ROps.box); (case hop => rfl); (case hx => rfl); (case hrf => rfl); (all_goals try rfl))
    | ((with_reducible apply ROps.off); (case hw => rfl); (case hdst => rfl); (case hd => rfl))
    | ((with_reducible have hB : (boarderref13_Check.f _ _ _ _).bind _ = some _ := H); clear hB; (replace H := bind_some' H); (obtain ⟨t_, H1, H⟩ := H); (try dsimp only at H); (with_reducible apply ROps.call); (case hop => rfl); (case hc => exact boarderref13_Check.ok H1); (case ha => exact argsX); (case hw => rfl); (case hdst => rfl); (case hd => rfl))
    | ((with_reducible have hB : (boarderref12_Right.f _ _).bind _ = some _ := H); clear hB; (replace H := bind_some' H); (obtain ⟨t_, H1, H⟩ := H); (try dsimp only at H); (with_reducible apply ROps.call); (case hop => rfl); (case hc => exact boarderref12_Right.ok H1); (case ha => exact argsX); (case hw => rfl); (case hdst => rfl); (case hd => rfl))
    | ((with_reducible have hB : (boarderref07_Right.f _).bind _ = some _ := H); clear hB; (replace H := bind_some' H); (obtain ⟨t_, H1, H⟩ := H); (try dsimp only at H); (with_reducible apply ROps.call); (case hop => rfl); (case hc => exact boarderref07_Right.ok H1); (case ha => exact argsX); (case hw => rfl); (case hdst => rfl); (case hd => rfl))
    | ((with_reducible apply Runs.retP tysOK); (case hrs => rfl); (case h => rfl); (case hr => (cases H; exact refX)); (case hx => rfl))
    | exact leRX)
end Go.Proofs.Ytdcabfonjmeajaa.PAlloc
set_option linter.unusedVariables false
set_option linter.unusedSimpArgs false
namespace Go.Proofs.Ytdcabfonjmeajaa.PAlloc
open Go.RowKit Go.Proofs.YtdcabfonjmeajaaW.PrintWords Go.Proofs.YtdcabfonjmeajaaW.PrintLast Go.Proofs.YtdcabfonjmeajaaW.PrintMore Go.Proofs.Ytdcabfonjmeajaa.Abs
/-! ### boarderref12_Holds: function 36 -/
def boarderref12_Holds.f (a0_0 : Int) (a0_1 : Int) (a0_2 : Int) (a0_3 : ByteArray) (a1 : Int) : Option (Bool) := if a0_1 = 1 then (some (decide (a0_2 > a1))) else (some false)
noncomputable def boarderref12_Holds.cx : Cx := ⟨Try.prog, tys, glo, 14, Try.f36, [.tmp 4]⟩
set_option maxHeartbeats 16000000 in
set_option maxRecDepth 100000 in
theorem boarderref12_Holds.ok {a0_0 : Int} {a0_1 : Int} {a0_2 : Int} {a0_3 : ByteArray} {a1 : Int} {r0 : Bool} (H : boarderref12_Holds.f a0_0 a0_1 a0_2 a0_3 a1 = some r0) : CallOK Try.prog glo 36 [.agg [.imm (.int .i64 a0_0), .imm (.int .i64 a0_1), .imm (.int .i64 a0_2), .imm (.string a0_3)], .imm (.int .i64 a1)] (.imm (.bool r0)) := by
  unfold boarderref12_Holds.f at H
  refine CallOK.of (c := boarderref12_Holds.cx) Try.func36 (show (boarderref12_Holds.cx).fn.body = some _ from rfl) rfl rfl (Nat.le_of_ble_eq_true rfl) ?_
  repeat' (first
    | ((with_reducible replace H := some_ite H); obtain ⟨_, H⟩ := H)
    | (with_reducible replace H := true_ite H)
    | (with_reducible replace H := false_ite H)
    | ((with_reducible have hb := bool_ite H); clear H; rcases hb with ⟨e_, H⟩ | ⟨e_, H⟩ <;> subst e_)
    | ((with_reducible apply ROps.pure); (case hop => rfl); (case hw => rfl); (case hdst => rfl); (case hd => rfl))
    | (with_reducible apply ROps.nil)
    | (with_reducible apply Runs.seq)
    | (with_reducible apply Runs.region tysOK)
    | (with_reducible apply Runs.scope)
    | (with_reducible apply Runs.inScope)
    | (with_reducible apply Runs.label)
    | ((with_reducible apply ROps.cmp); (case hop => exact cmpX); (case hw => rfl); (case hdst => rfl); (case hd => rfl); (all_goals (intro h; first | (replace H := ite_pos_ h H) | (replace H := ite_neg_ h H) | (replace H := dec_pos h H) | (replace H := dec_neg h H) | (replace H := dec_t h H) | (replace H := dec_f h H) | (replace H := beq_pos h H) | (replace H := beq_neg h H) | (replace H := beq_tt h H) | (replace H := beq_ff h H) | (replace H := ite_pos_ (Decidable.not_not.1 h) H) | (replace H := beq_pos (Decidable.not_not.1 h) H) | (replace H := beq_tt (Decidable.not_not.1 h) H) | ((try simp only [rdOf] at h); (try simp only [rdOf] at H); (rw [decide_eq_true h] at H)) | ((try simp only [rdOf] at h); (try simp only [rdOf] at H); (rw [decide_eq_false h] at H)) | ((try simp only [rdOf] at h); (try simp only [rdOf] at H); (rw [beq_t h] at H)) | ((try simp only [rdOf] at h); (try simp only [rdOf] at H); (rw [beq_f h] at H)) | ((try simp only [rdOf] at h); (try simp only [rdOf] at H); (rw [bne_t h] at H)) | ((try simp only [rdOf] at h); (try simp only [rdOf] at H); (rw [bne_f h] at H)) | ((try simp only [rdOf] at h); (try simp only [rdOf] at H); (rw [beq_t (Decidable.not_not.1 h)] at H)) | ((try simp only [rdOf] at h); (try simp only [rdOf] at H); (rw [bne_f (Decidable.not_not.1 h)] at H)) | ((try simp only [rdOf] at h); (try simp only [rdOf] at H); (rw [if_pos h] at H)) | ((try simp only [rdOf] at h); (try simp only [rdOf] at H); (rw [if_neg h] at H)) | contradiction | skip)))
    | ((with_reducible apply ROps.val); (case hop => exact valX); (case hw => rfl); (case hdst => rfl); (case hd => rfl))
    | ((with_reducible apply ROps.box); (case hop => rfl); (case hx => rfl); (case hrf => rfl); (all_goals try rfl))
    | ((with_reducible apply ROps.off); (case hw => rfl); (case hdst => rfl); (case hd => rfl))
    | ((with_reducible apply Runs.retP tysOK); (case hrs => rfl); (case h => rfl); (case hr => (cases H; exact refX)); (case hx => rfl))
    | exact leRX)
end Go.Proofs.Ytdcabfonjmeajaa.PAlloc
set_option linter.unusedVariables false
set_option linter.unusedSimpArgs false
namespace Go.Proofs.Ytdcabfonjmeajaa.PAlloc
open Go.RowKit Go.Proofs.YtdcabfonjmeajaaW.PrintWords Go.Proofs.YtdcabfonjmeajaaW.PrintLast Go.Proofs.YtdcabfonjmeajaaW.PrintMore Go.Proofs.Ytdcabfonjmeajaa.Abs
/-! ### boarderref13_Find: function 25 -/
mutual
def boarderref13_Find.l0 : Nat → Int → Int → Int → Int → List (S41) → Option (Int × Int × Bool)
  | 0, _, _, _, _, _ => none
  | k + 1, x1, x7, x458000, x458001, x458002 => if x7 < (x458002.length : Int) then (boarderref13_Find.l1 k x1 x7 0 x458000 x458001 x458002) else (some (0, 0, false))
def boarderref13_Find.l1 : Nat → Int → Int → Int → Int → Int → List (S41) → Option (Int × Int × Bool)
  | 0, _, _, _, _, _, _ => none
  | k + 1, x1, x7, x8, x458000, x458001, x458002 => if 0 ≤ x7 then (if x7 < (x458002.length : Int) then (if x8 < (((rd_T41 x458002 x7).f0).length : Int) then (if 0 ≤ x8 then ((boarderref01_Has.f k ((rd_T57 ((rd_T41 x458002 x7).f0) x8).f0) ((rd_T57 ((rd_T41 x458002 x7).f0) x8).f1) x1).bind fun t464 => (if t464 = true then (some (x7, x8, true)) else (boarderref13_Find.l1 k x1 x7 (wrap64 (x8 + 1)) x458000 x458001 x458002))) else (none)) else (boarderref13_Find.l0 k x1 (wrap64 (x7 + 1)) x458000 x458001 x458002)) else (none)) else (none)
end
def boarderref13_Find.f (k : Nat) (a0_0 : Int) (a0_1 : Int) (l0_2 : List (S41)) (a1 : Int) : Option (Int × Int × Bool) := (boarderref13_Check.f k a0_0 a0_1 l0_2).bind fun t458 => (if t458 = 0 then (boarderref13_Find.l0 k a1 0 a0_0 a0_1 l0_2) else (some (0, 0, false)))
noncomputable def boarderref13_Find.cx : Cx := ⟨Try.prog, tys, glo, 54, Try.f25, [.tmp 4, .tmp 5, .tmp 6]⟩
set_option maxHeartbeats 16000000 in
set_option maxRecDepth 100000 in
theorem boarderref13_Find.ok {k : Nat} {a0_0 : Int} {a0_1 : Int} {l0_2 : List (S41)} {a1 : Int} {r0 : Int} {r1 : Int} {r2 : Bool} (H : boarderref13_Find.f k a0_0 a0_1 l0_2 a1 = some (r0, r1, r2)) : CallOK Try.prog glo 25 [.agg [.imm (.int .i64 a0_0), .imm (.int .i64 a0_1), vS41 l0_2], .imm (.int .i64 a1)] (.tup [.imm (.int .i64 r0), .imm (.int .i64 r1), .imm (.bool r2)]) := by
  unfold boarderref13_Find.f at H
  refine CallOK.of (c := boarderref13_Find.cx) Try.func25 (show (boarderref13_Find.cx).fn.body = some _ from rfl) rfl rfl (Nat.le_of_ble_eq_true rfl) ?_
  repeat' (first
    | ((with_reducible replace H := some_ite H); obtain ⟨_, H⟩ := H)
    | (with_reducible replace H := true_ite H)
    | (with_reducible replace H := false_ite H)
    | ((with_reducible have hb := bool_ite H); clear H; rcases hb with ⟨e_, H⟩ | ⟨e_, H⟩ <;> subst e_)
    | ((first | with_reducible apply ROps.pure | with_reducible apply DOps.pure); (case hop => rfl); (case hw => rfl); (case hdst => rfl); (case hd => rfl))
    | (first | with_reducible apply ROps.nil | with_reducible apply DOps.nil)
    | (with_reducible apply Runs.seq)
    | (with_reducible apply Runs.region tysOK)
    | ((with_reducible apply Runs.drawn tysOK mixed); (case hB => kernel_rfl))
    | (with_reducible apply Runs.block)
    | (with_reducible apply Runs.skip)
    | (with_reducible apply Runs.inBlock)
    | (with_reducible apply Runs.scope)
    | (with_reducible apply Runs.inScope)
    | (with_reducible apply Runs.label)
    | ((with_reducible apply Runs.condT); (case ho => rfl))
    | ((with_reducible apply Runs.condF); (case ho => rfl))
    | ((with_reducible apply Runs.exit); (case he => rfl))
    | ((first | with_reducible apply ROps.cmp | with_reducible apply DOps.cmp); (case hop => exact cmpX); (case hw => rfl); (case hdst => rfl); (case hd => rfl); (all_goals (intro h; first | (replace H := ite_pos_ h H) | (replace H := ite_neg_ h H) | (replace H := dec_pos h H) | (replace H := dec_neg h H) | (replace H := dec_t h H) | (replace H := dec_f h H) | (replace H := beq_pos h H) | (replace H := beq_neg h H) | (replace H := beq_tt h H) | (replace H := beq_ff h H) | (replace H := ite_pos_ (Decidable.not_not.1 h) H) | (replace H := beq_pos (Decidable.not_not.1 h) H) | (replace H := beq_tt (Decidable.not_not.1 h) H) | ((try simp only [rd_T41, rd_T57, rdOf] at h); (try simp only [rd_T41, rd_T57, rdOf] at H); (rw [decide_eq_true h] at H)) | ((try simp only [rd_T41, rd_T57, rdOf] at h); (try simp only [rd_T41, rd_T57, rdOf] at H); (rw [decide_eq_false h] at H)) | ((try simp only [rd_T41, rd_T57, rdOf] at h); (try simp only [rd_T41, rd_T57, rdOf] at H); (rw [beq_t h] at H)) | ((try simp only [rd_T41, rd_T57, rdOf] at h); (try simp only [rd_T41, rd_T57, rdOf] at H); (rw [beq_f h] at H)) | ((try simp only [rd_T41, rd_T57, rdOf] at h); (try simp only [rd_T41, rd_T57, rdOf] at H); (rw [bne_t h] at H)) | ((try simp only [rd_T41, rd_T57, rdOf] at h); (try simp only [rd_T41, rd_T57, rdOf] at H); (rw [bne_f h] at H)) | ((try simp only [rd_T41, rd_T57, rdOf] at h); (try simp only [rd_T41, rd_T57, rdOf] at H); (rw [beq_t (Decidable.not_not.1 h)] at H)) | ((try simp only [rd_T41, rd_T57, rdOf] at h); (try simp only [rd_T41, rd_T57, rdOf] at H); (rw [bne_f (Decidable.not_not.1 h)] at H)) | ((try simp only [rd_T41, rd_T57, rdOf] at h); (try simp only [rd_T41, rd_T57, rdOf] at H); (rw [if_pos h] at H)) | ((try simp only [rd_T41, rd_T57, rdOf] at h); (try simp only [rd_T41, rd_T57, rdOf] at H); (rw [if_neg h] at H)) | contradiction | skip)))
    | ((first | with_reducible apply ROps.val | with_reducible apply DOps.val); (case hop => exact valX); (case hw => rfl); (case hdst => rfl); (case hd => rfl))
    | ((first | with_reducible apply ROps.idx | with_reducible apply DOps.idx); (case hop => rfl); (case hx => rfl); (case hi => rfl); (case he => rfl); (case hw => rfl); (case hdst => rfl); (case hd => rfl); (case h0 => first | assumption | omega); (case h1 => first | assumption | omega))
    | ((with_reducible apply ROps.box); (case hop => rfl); (case hx => rfl); (case hrf => rfl); (all_goals try rfl))
    | ((with_reducible have hB : (boarderref13_Check.f _ _ _ _).bind _ = some _ := H); clear hB; (replace H := bind_some' H); (obtain ⟨t_, H1, H⟩ := H); (try dsimp only at H); (first | with_reducible apply ROps.call | with_reducible apply DOps.call); (case hop => rfl); (case hc => exact boarderref13_Check.ok H1); (case ha => exact argsX); (case hw => rfl); (case hdst => rfl); (case hd => rfl))
    | ((with_reducible have hB : (boarderref01_Has.f _ _ _ _).bind _ = some _ := H); clear hB; (replace H := bind_some' H); (obtain ⟨t_, H1, H⟩ := H); (try dsimp only at H); (first | with_reducible apply ROps.call | with_reducible apply DOps.call); (case hop => rfl); (case hc => exact boarderref01_Has.ok H1); (case ha => exact argsX); (case hw => rfl); (case hdst => rfl); (case hd => rfl))
    | ((with_reducible apply Runs.loopK1 ((fun i0 i1 i2 i3 => fun kk (v0_7 : Int) => boarderref13_Find.l0 kk i0 v0_7 i1 i2 i3) _ _ _ _) [1, 2] [] (fun b v0_7 => [(7, .imm (.int .i64 v0_7))]) (fun v0_7 => []) _ _ [] H); (case h0 => intros; rfl); (any_goals (clear H; intro k0 hk0 ih0 v0_7 H; replace H : boarderref13_Find.l0 (k0 + 1) _ v0_7 _ _ _ = some _ := H; rw [boarderref13_Find.l0] at H)))
    | (with_reducible apply ih0 _ _ [] _ _ (by omega) H)
    | ((with_reducible apply Runs.loopK1 ((fun i0 i1 i2 i3 i4 => fun kk (v1_8 : Int) => boarderref13_Find.l1 kk i0 i1 v1_8 i2 i3 i4) _ _ _ _ _) [1, 2, 7] [] (fun b v1_8 => [(8, .imm (.int .i64 v1_8))]) (fun v1_8 => []) _ _ [] H); (case h0 => intros; rfl); (any_goals (clear H; intro k1 hk1 ih1 v1_8 H; replace H : boarderref13_Find.l1 (k1 + 1) _ _ v1_8 _ _ _ = some _ := H; rw [boarderref13_Find.l1] at H)))
    | (with_reducible apply ih1 _ _ [] _ _ (by omega) H)
    | ((with_reducible apply Runs.retP tysOK); (case hrs => rfl); (case h => rfl); (case hr => (cases H; exact refX)); (case hx => rfl))
    | exact leRX)
end Go.Proofs.Ytdcabfonjmeajaa.PAlloc
set_option linter.unusedVariables false
set_option linter.unusedSimpArgs false
namespace Go.Proofs.Ytdcabfonjmeajaa.PAlloc
open Go.RowKit Go.Proofs.YtdcabfonjmeajaaW.PrintWords Go.Proofs.YtdcabfonjmeajaaW.PrintLast Go.Proofs.YtdcabfonjmeajaaW.PrintMore Go.Proofs.Ytdcabfonjmeajaa.Abs
/-! ### boarderref15_In: function 37 -/
def boarderref15_In.f (k : Nat) (a0_0 : Int) (a0_1 : Int) (l0_2 : List (S41)) (a1 : Int) (a2 : Int) : Option (Bool) := (boarderref13_Find.f k a0_0 a0_1 l0_2 a2).bind fun bt466 => (if bt466.2.2 = true then (some (bt466.1 == a1)) else (some false))
noncomputable def boarderref15_In.cx : Cx := ⟨Try.prog, tys, glo, 23, Try.f37, [.tmp 6]⟩
set_option maxHeartbeats 16000000 in
set_option maxRecDepth 100000 in
theorem boarderref15_In.ok {k : Nat} {a0_0 : Int} {a0_1 : Int} {l0_2 : List (S41)} {a1 : Int} {a2 : Int} {r0 : Bool} (H : boarderref15_In.f k a0_0 a0_1 l0_2 a1 a2 = some r0) : CallOK Try.prog glo 37 [.agg [.imm (.int .i64 a0_0), .imm (.int .i64 a0_1), vS41 l0_2], .imm (.int .i64 a1), .imm (.int .i64 a2)] (.imm (.bool r0)) := by
  unfold boarderref15_In.f at H
  refine CallOK.of (c := boarderref15_In.cx) Try.func37 (show (boarderref15_In.cx).fn.body = some _ from rfl) rfl rfl (Nat.le_of_ble_eq_true rfl) ?_
  repeat' (first
    | ((with_reducible replace H := some_ite H); obtain ⟨_, H⟩ := H)
    | (with_reducible replace H := true_ite H)
    | (with_reducible replace H := false_ite H)
    | ((with_reducible have hb := bool_ite H); clear H; rcases hb with ⟨e_, H⟩ | ⟨e_, H⟩ <;> subst e_)
    | ((with_reducible apply ROps.pure); (case hop => rfl); (case hw => rfl); (case hdst => rfl); (case hd => rfl))
    | (with_reducible apply ROps.nil)
    | (with_reducible apply Runs.seq)
    | (with_reducible apply Runs.region tysOK)
    | (with_reducible apply Runs.scope)
    | (with_reducible apply Runs.inScope)
    | (with_reducible apply Runs.label)
    | ((with_reducible apply ROps.cmp); (case hop => exact cmpX); (case hw => rfl); (case hdst => rfl); (case hd => rfl); (all_goals (intro h; first | (replace H := ite_pos_ h H) | (replace H := ite_neg_ h H) | (replace H := dec_pos h H) | (replace H := dec_neg h H) | (replace H := dec_t h H) | (replace H := dec_f h H) | (replace H := beq_pos h H) | (replace H := beq_neg h H) | (replace H := beq_tt h H) | (replace H := beq_ff h H) | (replace H := ite_pos_ (Decidable.not_not.1 h) H) | (replace H := beq_pos (Decidable.not_not.1 h) H) | (replace H := beq_tt (Decidable.not_not.1 h) H) | ((try simp only [rdOf] at h); (try simp only [rdOf] at H); (rw [decide_eq_true h] at H)) | ((try simp only [rdOf] at h); (try simp only [rdOf] at H); (rw [decide_eq_false h] at H)) | ((try simp only [rdOf] at h); (try simp only [rdOf] at H); (rw [beq_t h] at H)) | ((try simp only [rdOf] at h); (try simp only [rdOf] at H); (rw [beq_f h] at H)) | ((try simp only [rdOf] at h); (try simp only [rdOf] at H); (rw [beq_t (Decidable.not_not.1 h)] at H)) | ((try simp only [rdOf] at h); (try simp only [rdOf] at H); (rw [if_pos h] at H)) | ((try simp only [rdOf] at h); (try simp only [rdOf] at H); (rw [if_neg h] at H)) | contradiction | skip)))
    | ((with_reducible apply ROps.val); (case hop => exact valX); (case hw => rfl); (case hdst => rfl); (case hd => rfl))
    | ((with_reducible apply ROps.box); (case hop => rfl); (case hx => rfl); (case hrf => rfl); (all_goals try rfl))
    | ((with_reducible apply ROps.off); (case hw => rfl); (case hdst => rfl); (case hd => rfl))
    | ((with_reducible have hB : (boarderref13_Find.f _ _ _ _ _).bind _ = some _ := H); clear hB; (replace H := bind_some' H); (obtain ⟨⟨t_0, t_1, t_2⟩, H1, H⟩ := H); (try dsimp only at H); (with_reducible apply ROps.call); (case hop => rfl); (case hc => exact boarderref13_Find.ok H1); (case ha => exact argsX); (case hw => rfl); (case hdst => rfl); (case hd => rfl))
    | ((with_reducible apply Runs.retP tysOK); (case hrs => rfl); (case h => rfl); (case hr => (cases H; exact refX)); (case hx => rfl))
    | exact leRX)
end Go.Proofs.Ytdcabfonjmeajaa.PAlloc
set_option linter.unusedVariables false
set_option linter.unusedSimpArgs false
namespace Go.Proofs.Ytdcabfonjmeajaa.PAlloc
open Go.RowKit Go.Proofs.YtdcabfonjmeajaaW.PrintWords Go.Proofs.YtdcabfonjmeajaaW.PrintLast Go.Proofs.YtdcabfonjmeajaaW.PrintMore Go.Proofs.Ytdcabfonjmeajaa.Abs
/-! ### boarderref15_other: function 57 -/
def boarderref15_other.l0 : Nat → List (S47) → Int → ByteArray → Int → Int → Int → Int → Int → List (S41) → Option (Bool)
  | 0, _, _, _, _, _, _, _, _, _ => none
  | k + 1, x1, x2, x3, x4, x5, x13, x470000, x470001, x470002 => if x13 < (x1.length : Int) then (if 0 ≤ x13 then (if ((rd_T47 x1 x13).f3).toList = x3.toList then (if ((rd_T47 x1 x13).f0) = x4 then (boarderref15_other.l0 k x1 x2 x3 x4 x5 (wrap64 (x13 + 1)) x470000 x470001 x470002) else ((boarderref12_Holds.f ((rd_T47 x1 x13).f0) ((rd_T47 x1 x13).f1) ((rd_T47 x1 x13).f2) ((rd_T47 x1 x13).f3) x5).bind fun t473 => (if t473 = true then ((boarderref15_In.f k x470000 x470001 x470002 x2 ((rd_T47 x1 x13).f0)).bind fun t475 => (if t475 = true then (some true) else (boarderref15_other.l0 k x1 x2 x3 x4 x5 (wrap64 (x13 + 1)) x470000 x470001 x470002))) else (boarderref15_other.l0 k x1 x2 x3 x4 x5 (wrap64 (x13 + 1)) x470000 x470001 x470002)))) else (boarderref15_other.l0 k x1 x2 x3 x4 x5 (wrap64 (x13 + 1)) x470000 x470001 x470002)) else (none)) else (some false)
def boarderref15_other.f (k : Nat) (a0_0 : Int) (a0_1 : Int) (l0_2 : List (S41)) (l1 : List (S47)) (a2 : Int) (a3 : ByteArray) (a4 : Int) (a5 : Int) : Option (Bool) := boarderref15_other.l0 k l1 a2 a3 a4 a5 0 a0_0 a0_1 l0_2
def boarderref15_other.T4 : Bool × List (List Nat × List Nat) := (true, [([], []), ([], []), ([0, 1], [0, 1]), ([2], [2]), ([3], [3]), ([], []), ([4, 5], [4, 5]), ([6], [6]), ([7], [7]), ([7], [7]), ([8, 9, 7], [7, 8, 9]), ([10, 7], [7, 10]), ([11, 7], [7, 11]), ([7], [7]), ([12, 13, 7], [7, 12, 13]), ([7, 14], [7, 14]), ([15, 7], [15]), ([16], [16]), ([16], [16]), ([17, 18, 16], [16, 17, 18]), ([19, 16], [16, 19]), ([16], [16]), ([20, 21, 16, 16], [16, 20, 21]), ([16, 22], [16, 22]), ([23, 22], [23]), ([24], [24]), ([24], [24]), ([24], [24]), ([24], [24]), ([27, 28, 24], [24, 27, 28]), ([29, 24], [24, 29]), ([30, 24], [24, 30]), ([25, 26, 31, 24, 24], [24, 25, 26, 31]), ([24, 32], [24, 32])])
def boarderref15_other.B4 : List Nat := [0, 0, 3, 7, 15, 0, 63, 127, 255, 255, 1023, 2047, 4095, 255, 16383, 32767, 65535, 131071, 131071, 524287, 1048575, 131071, 4194303, 8388607, 16777215, 33554431, 33554431, 33554431, 33554431, 436207615, 973078527, 2046820351, 4294967295, 8589934591]
noncomputable def boarderref15_other.cx : Cx := ⟨Try.prog, tys, glo, 54, Try.f57, [.tmp 12]⟩
set_option maxHeartbeats 16000000 in
set_option maxRecDepth 100000 in
theorem boarderref15_other.ok {k : Nat} {a0_0 : Int} {a0_1 : Int} {l0_2 : List (S41)} {l1 : List (S47)} {a2 : Int} {a3 : ByteArray} {a4 : Int} {a5 : Int} {r0 : Bool} (H : boarderref15_other.f k a0_0 a0_1 l0_2 l1 a2 a3 a4 a5 = some r0) : CallOK Try.prog glo 57 [.agg [.imm (.int .i64 a0_0), .imm (.int .i64 a0_1), vS41 l0_2], vS47 l1, .imm (.int .i64 a2), .imm (.string a3), .imm (.int .i64 a4), .imm (.int .i64 a5)] (.imm (.bool r0)) := by
  unfold boarderref15_other.f at H
  refine CallOK.of (c := boarderref15_other.cx) Try.func57 (show (boarderref15_other.cx).fn.body = some _ from rfl) rfl rfl (Nat.le_of_ble_eq_true rfl) ?_
  repeat' (first
    | ((with_reducible replace H := some_ite H); obtain ⟨_, H⟩ := H)
    | (with_reducible replace H := true_ite H)
    | (with_reducible replace H := false_ite H)
    | ((with_reducible have hb := bool_ite H); clear H; rcases hb with ⟨e_, H⟩ | ⟨e_, H⟩ <;> subst e_)
    | ((first | with_reducible apply ROps.pure | with_reducible apply DOps.pure); (case hop => rfl); (case hw => rfl); (case hdst => rfl); (case hd => rfl))
    | (first | with_reducible apply ROps.nil | with_reducible apply DOps.nil)
    | (with_reducible apply Runs.seq)
    | (with_reducible apply Runs.region tysOK)
    | ((with_reducible apply Runs.drawn tysOK mixed); (case hB => kernel_rfl))
    | (with_reducible apply Runs.block)
    | (with_reducible apply Runs.skip)
    | (with_reducible apply Runs.inBlock)
    | (with_reducible apply Runs.scope)
    | (with_reducible apply Runs.inScope)
    | (with_reducible apply Runs.label)
    | ((with_reducible apply Runs.condT); (case ho => rfl))
    | ((with_reducible apply Runs.condF); (case ho => rfl))
    | ((with_reducible apply Runs.exit); (case he => rfl))
    | ((first | with_reducible apply ROps.cmp | with_reducible apply DOps.cmp); (case hop => exact cmpX); (case hw => rfl); (case hdst => rfl); (case hd => rfl); (all_goals (intro h; first | (replace H := ite_pos_ h H) | (replace H := ite_neg_ h H) | (replace H := dec_pos h H) | (replace H := dec_neg h H) | (replace H := dec_t h H) | (replace H := dec_f h H) | (replace H := beq_pos h H) | (replace H := beq_neg h H) | (replace H := beq_tt h H) | (replace H := beq_ff h H) | (replace H := ite_pos_ (Decidable.not_not.1 h) H) | (replace H := beq_pos (Decidable.not_not.1 h) H) | (replace H := beq_tt (Decidable.not_not.1 h) H) | ((try simp only [rd_T47, rdOf] at h); (try simp only [rd_T47, rdOf] at H); (rw [decide_eq_true h] at H)) | ((try simp only [rd_T47, rdOf] at h); (try simp only [rd_T47, rdOf] at H); (rw [decide_eq_false h] at H)) | ((try simp only [rd_T47, rdOf] at h); (try simp only [rd_T47, rdOf] at H); (rw [beq_t h] at H)) | ((try simp only [rd_T47, rdOf] at h); (try simp only [rd_T47, rdOf] at H); (rw [beq_f h] at H)) | ((try simp only [rd_T47, rdOf] at h); (try simp only [rd_T47, rdOf] at H); (rw [bne_t h] at H)) | ((try simp only [rd_T47, rdOf] at h); (try simp only [rd_T47, rdOf] at H); (rw [bne_f h] at H)) | ((try simp only [rd_T47, rdOf] at h); (try simp only [rd_T47, rdOf] at H); (rw [beq_t (Decidable.not_not.1 h)] at H)) | ((try simp only [rd_T47, rdOf] at h); (try simp only [rd_T47, rdOf] at H); (rw [bne_f (Decidable.not_not.1 h)] at H)) | ((try simp only [rd_T47, rdOf] at h); (try simp only [rd_T47, rdOf] at H); (rw [if_pos h] at H)) | ((try simp only [rd_T47, rdOf] at h); (try simp only [rd_T47, rdOf] at H); (rw [if_neg h] at H)) | contradiction | skip)))
    | ((first | with_reducible apply ROps.val | with_reducible apply DOps.val); (case hop => exact valX); (case hw => rfl); (case hdst => rfl); (case hd => rfl))
    | ((first | with_reducible apply ROps.idx | with_reducible apply DOps.idx); (case hop => rfl); (case hx => rfl); (case hi => rfl); (case he => rfl); (case hw => rfl); (case hdst => rfl); (case hd => rfl); (case h0 => first | assumption | omega); (case h1 => first | assumption | omega))
    | ((with_reducible apply ROps.box); (case hop => rfl); (case hx => rfl); (case hrf => rfl); (all_goals try rfl))
    | ((first | with_reducible apply ROps.off | with_reducible apply DOps.off); (case hw => rfl); (case hdst => rfl); (case hd => rfl))
    | ((with_reducible have hB : (boarderref12_Holds.f _ _ _ _ _).bind _ = some _ := H); clear hB; (replace H := bind_some' H); (obtain ⟨t_, H1, H⟩ := H); (try dsimp only at H); (first | with_reducible apply ROps.call | with_reducible apply DOps.call); (case hop => rfl); (case hc => exact boarderref12_Holds.ok H1); (case ha => exact argsX); (case hw => rfl); (case hdst => rfl); (case hd => rfl))
    | ((with_reducible have hB : (boarderref15_In.f _ _ _ _ _ _).bind _ = some _ := H); clear hB; (replace H := bind_some' H); (obtain ⟨t_, H1, H⟩ := H); (try dsimp only at H); (first | with_reducible apply ROps.call | with_reducible apply DOps.call); (case hop => rfl); (case hc => exact boarderref15_In.ok H1); (case ha => exact argsX); (case hw => rfl); (case hdst => rfl); (case hd => rfl))
    | ((with_reducible apply Runs.loopK1 ((fun i0 i1 i2 i3 i4 i5 i6 i7 => fun kk (v0_13 : Int) => boarderref15_other.l0 kk i0 i1 i2 i3 i4 v0_13 i5 i6 i7) _ _ _ _ _ _ _ _) [1, 2, 3, 4, 5, 6] [] (fun b v0_13 => [(13, .imm (.int .i64 v0_13))]) (fun v0_13 => []) _ _ [] H); (case h0 => intros; rfl); (any_goals (clear H; intro k0 hk0 ih0 v0_13 H; replace H : boarderref15_other.l0 (k0 + 1) _ _ _ _ _ v0_13 _ _ _ = some _ := H; rw [boarderref15_other.l0] at H)))
    | (with_reducible apply ih0 _ _ [] _ _ (by omega) H)
    | ((with_reducible apply Runs.retP tysOK); (case hrs => rfl); (case h => rfl); (case hr => (cases H; exact refX)); (case hx => rfl))
    | exact leRX)
end Go.Proofs.Ytdcabfonjmeajaa.PAlloc
set_option linter.unusedVariables false
set_option linter.unusedSimpArgs false
namespace Go.Proofs.Ytdcabfonjmeajaa.PAlloc
open Go.RowKit Go.Proofs.YtdcabfonjmeajaaW.PrintWords Go.Proofs.YtdcabfonjmeajaaW.PrintLast Go.Proofs.YtdcabfonjmeajaaW.PrintMore Go.Proofs.Ytdcabfonjmeajaa.Abs
/-! ### boarderref12_Good: function 61 -/
def boarderref12_Good.f (k : Nat) (l0 : List S47) : Option (List S47) := (boarderref12_Right.f k l0).bind fun b => some (cond b l0 [])
noncomputable def boarderref12_Good.cx : Cx := ⟨Try.prog, tys, glo, 6, Try.f61, [.tmp 2]⟩
set_option maxHeartbeats 16000000 in
set_option maxRecDepth 100000 in
theorem boarderref12_Good.ok {k : Nat} {l0 : List S47} {r0 : List S47} (H : boarderref12_Good.f k l0 = some r0) : CallOK Try.prog glo 61 [vS47 l0] (vS47 r0) := by
  unfold boarderref12_Good.f at H
  refine CallOK.of (c := boarderref12_Good.cx) Try.func61 (show (boarderref12_Good.cx).fn.body = some _ from rfl) rfl rfl (Nat.le_of_ble_eq_true rfl) ?_
  repeat' (first
    | ((with_reducible replace H := some_ite H); obtain ⟨_, H⟩ := H)
    | ((with_reducible have hb := cond_ite H); clear H; rcases hb with ⟨e_, H⟩ | ⟨e_, H⟩ <;> subst e_)
    | ((with_reducible apply ROps.pure); (case hop => rfl); (case hw => rfl); (case hdst => rfl); (case hd => rfl))
    | (with_reducible apply ROps.nil)
    | (with_reducible apply Runs.seq)
    | (with_reducible apply Runs.region tysOK)
    | (with_reducible apply Runs.skip)
    | (with_reducible apply Runs.scope)
    | (with_reducible apply Runs.inScope)
    | (with_reducible apply Runs.label)
    | ((with_reducible apply Runs.condT); (case ho => rfl))
    | ((with_reducible apply Runs.condF); (case ho => rfl))
    | ((with_reducible have hB : (boarderref12_Right.f _ _).bind _ = some _ := H); clear hB; (replace H := bind_some' H); (obtain ⟨t_, H1, H⟩ := H); (try dsimp only at H); (with_reducible apply ROps.call); (case hop => rfl); (case hc => exact boarderref12_Right.ok H1); (case ha => exact argsX); (case hw => rfl); (case hdst => rfl); (case hd => rfl))
    | ((with_reducible apply Runs.retP tysOK); (case hrs => rfl); (case h => rfl); (case hr => (cases H; exact refX)); (case hx => rfl))
    | exact leRX)
end Go.Proofs.Ytdcabfonjmeajaa.PAlloc
set_option linter.unusedVariables false
set_option linter.unusedSimpArgs false
namespace Go.Proofs.Ytdcabfonjmeajaa.PAlloc
open Go.RowKit Go.Proofs.YtdcabfonjmeajaaW.PrintWords Go.Proofs.YtdcabfonjmeajaaW.PrintLast Go.Proofs.YtdcabfonjmeajaaW.PrintMore Go.Proofs.Ytdcabfonjmeajaa.Abs
/-! ### boarderref12_Get: function 34 -/
def boarderref12_Get.l0 : Nat → List (S47) → Int → Int → Option (Int × Int × Int × ByteArray × Bool)
  | 0, _, _, _ => none
  | k + 1, x0, x1, x6 => if x6 < (x0.length : Int) then (if 0 ≤ x6 then (if ((rd_T47 x0 x6).f0) = x1 then (some ((rd_T47 x0 x6).f0, (rd_T47 x0 x6).f1, (rd_T47 x0 x6).f2, (rd_T47 x0 x6).f3, true)) else (boarderref12_Get.l0 k x0 x1 (wrap64 (x6 + 1)))) else (none)) else (some (0, 0, 0, (⟨#[]⟩ : ByteArray), false))
def boarderref12_Get.f (k : Nat) (l0 : List (S47)) (a1 : Int) : Option (Int × Int × Int × ByteArray × Bool) := (boarderref12_Good.f k l0).bind fun t478 => (boarderref12_Get.l0 k t478 a1 0)
noncomputable def boarderref12_Get.cx : Cx := ⟨Try.prog, tys, glo, 27, Try.f34, [.cell 4 47, .tmp 5]⟩
set_option maxHeartbeats 16000000 in
set_option maxRecDepth 100000 in
theorem boarderref12_Get.ok {k : Nat} {l0 : List (S47)} {a1 : Int} {r0 : Int} {r1 : Int} {r2 : Int} {r3 : ByteArray} {r4 : Bool} (H : boarderref12_Get.f k l0 a1 = some (r0, r1, r2, r3, r4)) : CallOK Try.prog glo 34 [vS47 l0, .imm (.int .i64 a1)] (.tup [.agg [.imm (.int .i64 r0), .imm (.int .i64 r1), .imm (.int .i64 r2), .imm (.string r3)], .imm (.bool r4)]) := by
  unfold boarderref12_Get.f at H
  refine CallOK.of (c := boarderref12_Get.cx) Try.func34 (show (boarderref12_Get.cx).fn.body = some _ from rfl) rfl rfl (Nat.le_of_ble_eq_true rfl) ?_
  repeat' (first
    | ((with_reducible replace H := some_ite H); obtain ⟨_, H⟩ := H)
    | (with_reducible replace H := true_ite H)
    | (with_reducible replace H := false_ite H)
    | ((with_reducible have hb := bool_ite H); clear H; rcases hb with ⟨e_, H⟩ | ⟨e_, H⟩ <;> subst e_)
    | ((with_reducible apply ROps.pure); (case hop => rfl); (case hw => rfl); (case hdst => rfl); (case hd => rfl))
    | (with_reducible apply ROps.nil)
    | (with_reducible apply Runs.seq)
    | (with_reducible apply Runs.region tysOK)
    | (with_reducible apply Runs.block)
    | (with_reducible apply Runs.skip)
    | (with_reducible apply Runs.inBlock)
    | (with_reducible apply Runs.scope)
    | (with_reducible apply Runs.inScope)
    | (with_reducible apply Runs.label)
    | ((with_reducible apply Runs.condT); (case ho => rfl))
    | ((with_reducible apply Runs.condF); (case ho => rfl))
    | ((with_reducible apply Runs.exit); (case he => rfl))
    | ((with_reducible apply ROps.store); (case hop => rfl); (all_goals try rfl))
    | ((with_reducible apply ROps.cmp); (case hop => exact cmpX); (case hw => rfl); (case hdst => rfl); (case hd => rfl); (all_goals (intro h; first | (replace H := ite_pos_ h H) | (replace H := ite_neg_ h H) | (replace H := dec_pos h H) | (replace H := dec_neg h H) | (replace H := dec_t h H) | (replace H := dec_f h H) | (replace H := beq_pos h H) | (replace H := beq_neg h H) | (replace H := beq_tt h H) | (replace H := beq_ff h H) | (replace H := ite_pos_ (Decidable.not_not.1 h) H) | (replace H := beq_pos (Decidable.not_not.1 h) H) | (replace H := beq_tt (Decidable.not_not.1 h) H) | ((try simp only [rd_T47, rdOf] at h); (try simp only [rd_T47, rdOf] at H); (rw [decide_eq_true h] at H)) | ((try simp only [rd_T47, rdOf] at h); (try simp only [rd_T47, rdOf] at H); (rw [decide_eq_false h] at H)) | ((try simp only [rd_T47, rdOf] at h); (try simp only [rd_T47, rdOf] at H); (rw [beq_t h] at H)) | ((try simp only [rd_T47, rdOf] at h); (try simp only [rd_T47, rdOf] at H); (rw [beq_f h] at H)) | ((try simp only [rd_T47, rdOf] at h); (try simp only [rd_T47, rdOf] at H); (rw [bne_t h] at H)) | ((try simp only [rd_T47, rdOf] at h); (try simp only [rd_T47, rdOf] at H); (rw [bne_f h] at H)) | ((try simp only [rd_T47, rdOf] at h); (try simp only [rd_T47, rdOf] at H); (rw [beq_t (Decidable.not_not.1 h)] at H)) | ((try simp only [rd_T47, rdOf] at h); (try simp only [rd_T47, rdOf] at H); (rw [bne_f (Decidable.not_not.1 h)] at H)) | ((try simp only [rd_T47, rdOf] at h); (try simp only [rd_T47, rdOf] at H); (rw [if_pos h] at H)) | ((try simp only [rd_T47, rdOf] at h); (try simp only [rd_T47, rdOf] at H); (rw [if_neg h] at H)) | contradiction | skip)))
    | ((with_reducible apply ROps.val); (case hop => exact valX); (case hw => rfl); (case hdst => rfl); (case hd => rfl))
    | ((with_reducible apply ROps.idx); (case hop => rfl); (case hx => rfl); (case hi => rfl); (case he => rfl); (case hw => rfl); (case hdst => rfl); (case hd => rfl); (case h0 => first | assumption | omega); (case h1 => first | assumption | omega))
    | ((with_reducible apply ROps.alloc); (case hop => rfl); (all_goals try rfl))
    | ((with_reducible have hB : (boarderref12_Good.f _ _).bind _ = some _ := H); clear hB; (replace H := bind_some' H); (obtain ⟨t_, H1, H⟩ := H); (try dsimp only at H); (with_reducible apply ROps.call); (case hop => rfl); (case hc => exact boarderref12_Good.ok H1); (case ha => exact argsX); (case hw => rfl); (case hdst => rfl); (case hd => rfl))
    | ((with_reducible apply Runs.loopK1 ((fun i0 i1 => fun kk (v0_6 : Int) => boarderref12_Get.l0 kk i0 i1 v0_6) _ _) [0, 1, 4] [] (fun b v0_6 => [(6, .imm (.int .i64 v0_6))]) (fun v0_6 => []) _ _ [] H); (case h0 => intros; rfl); (any_goals (clear H; intro k0 hk0 ih0 v0_6 H; replace H : boarderref12_Get.l0 (k0 + 1) _ _ v0_6 = some _ := H; rw [boarderref12_Get.l0] at H)))
    | (with_reducible apply ih0 _ _ [] _ _ (by omega) H)
    | ((with_reducible apply Runs.retP tysOK); (case hrs => rfl); (case h => rfl); (case hr => (cases H; exact refX)); (case hx => rfl))
    | exact leRX)
end Go.Proofs.Ytdcabfonjmeajaa.PAlloc
set_option linter.unusedVariables false
set_option linter.unusedSimpArgs false
namespace Go.Proofs.Ytdcabfonjmeajaa.PAlloc
open Go.RowKit Go.Proofs.YtdcabfonjmeajaaW.PrintWords Go.Proofs.YtdcabfonjmeajaaW.PrintLast Go.Proofs.YtdcabfonjmeajaaW.PrintMore Go.Proofs.Ytdcabfonjmeajaa.Abs
/-! ### boarderref12_Free: function 58 -/
def boarderref12_Free.f (k : Nat) (l0 : List (S47)) (a1 : Int) (a2 : ByteArray) (a3 : Int) : Option (Bool) := (boarderref12_Get.f k l0 a1).bind fun bt481 => (if bt481.2.2.2.2 = true then (if bt481.2.1 = 2 then (some true) else (if a3 ≥ bt481.2.2.1 then (some true) else (if bt481.2.1 = 1 then (some (bt481.2.2.2.1.toList == a2.toList)) else (some false)))) else (some true))
noncomputable def boarderref12_Free.cx : Cx := ⟨Try.prog, tys, glo, 39, Try.f58, [.tmp 8]⟩
set_option maxHeartbeats 16000000 in
set_option maxRecDepth 100000 in
theorem boarderref12_Free.ok {k : Nat} {l0 : List (S47)} {a1 : Int} {a2 : ByteArray} {a3 : Int} {r0 : Bool} (H : boarderref12_Free.f k l0 a1 a2 a3 = some r0) : CallOK Try.prog glo 58 [vS47 l0, .imm (.int .i64 a1), .imm (.string a2), .imm (.int .i64 a3)] (.imm (.bool r0)) := by
  unfold boarderref12_Free.f at H
  refine CallOK.of (c := boarderref12_Free.cx) Try.func58 (show (boarderref12_Free.cx).fn.body = some _ from rfl) rfl rfl (Nat.le_of_ble_eq_true rfl) ?_
  repeat' (first
    | ((with_reducible replace H := some_ite H); obtain ⟨_, H⟩ := H)
    | (with_reducible replace H := true_ite H)
    | (with_reducible replace H := false_ite H)
    | ((with_reducible have hb := bool_ite H); clear H; rcases hb with ⟨e_, H⟩ | ⟨e_, H⟩ <;> subst e_)
    | ((with_reducible apply ROps.pure); (case hop => rfl); (case hw => rfl); (case hdst => rfl); (case hd => rfl))
    | (with_reducible apply ROps.nil)
    | (with_reducible apply Runs.seq)
    | (with_reducible apply Runs.region tysOK)
    | (with_reducible apply Runs.skip)
    | (with_reducible apply Runs.scope)
    | (with_reducible apply Runs.inScope)
    | (with_reducible apply Runs.label)
    | ((with_reducible apply Runs.condT); (case ho => rfl))
    | ((with_reducible apply Runs.condF); (case ho => rfl))
    | ((with_reducible apply ROps.store); (case hop => rfl); (all_goals try rfl))
    | ((with_reducible apply ROps.cmp); (case hop => exact cmpX); (case hw => rfl); (case hdst => rfl); (case hd => rfl); (all_goals (intro h; first | (replace H := ite_pos_ h H) | (replace H := ite_neg_ h H) | (replace H := dec_pos h H) | (replace H := dec_neg h H) | (replace H := dec_t h H) | (replace H := dec_f h H) | (replace H := beq_pos h H) | (replace H := beq_neg h H) | (replace H := beq_tt h H) | (replace H := beq_ff h H) | (replace H := ite_pos_ (Decidable.not_not.1 h) H) | (replace H := beq_pos (Decidable.not_not.1 h) H) | (replace H := beq_tt (Decidable.not_not.1 h) H) | ((try simp only [rdOf] at h); (try simp only [rdOf] at H); (rw [decide_eq_true h] at H)) | ((try simp only [rdOf] at h); (try simp only [rdOf] at H); (rw [decide_eq_false h] at H)) | ((try simp only [rdOf] at h); (try simp only [rdOf] at H); (rw [beq_t h] at H)) | ((try simp only [rdOf] at h); (try simp only [rdOf] at H); (rw [beq_f h] at H)) | ((try simp only [rdOf] at h); (try simp only [rdOf] at H); (rw [bne_t h] at H)) | ((try simp only [rdOf] at h); (try simp only [rdOf] at H); (rw [bne_f h] at H)) | ((try simp only [rdOf] at h); (try simp only [rdOf] at H); (rw [beq_t (Decidable.not_not.1 h)] at H)) | ((try simp only [rdOf] at h); (try simp only [rdOf] at H); (rw [bne_f (Decidable.not_not.1 h)] at H)) | ((try simp only [rdOf] at h); (try simp only [rdOf] at H); (rw [if_pos h] at H)) | ((try simp only [rdOf] at h); (try simp only [rdOf] at H); (rw [if_neg h] at H)) | contradiction | skip)))
    | ((with_reducible apply ROps.val); (case hop => exact valX); (case hw => rfl); (case hdst => rfl); (case hd => rfl))
    | ((with_reducible apply ROps.alloc); (case hop => rfl); (all_goals try rfl))
    | ((with_reducible apply ROps.off); (case hw => rfl); (case hdst => rfl); (case hd => rfl))
    | ((with_reducible have hB : (boarderref12_Get.f _ _ _).bind _ = some _ := H); clear hB; (replace H := bind_some' H); (obtain ⟨⟨t_0, t_1, t_2, t_3, t_4⟩, H1, H⟩ := H); (try dsimp only at H); (with_reducible apply ROps.call); (case hop => rfl); (case hc => exact boarderref12_Get.ok H1); (case ha => exact argsX); (case hw => rfl); (case hdst => rfl); (case hd => rfl))
    | ((with_reducible apply Runs.retP tysOK); (case hrs => rfl); (case h => rfl); (case hr => (cases H; exact refX)); (case hx => rfl))
    | exact leRX)
end Go.Proofs.Ytdcabfonjmeajaa.PAlloc
set_option linter.unusedVariables false
set_option linter.unusedSimpArgs false
namespace Go.Proofs.Ytdcabfonjmeajaa.PAlloc
open Go.RowKit Go.Proofs.YtdcabfonjmeajaaW.PrintWords Go.Proofs.YtdcabfonjmeajaaW.PrintLast Go.Proofs.YtdcabfonjmeajaaW.PrintMore Go.Proofs.Ytdcabfonjmeajaa.Abs
/-! ### boarderref15_May: function 31 -/
mutual
def boarderref15_May.j0 : Nat → Int → ByteArray → Int → Bool → Int → Int → List (S41) → Option (Bool)
  | 0, _, _, _, _, _, _, _ => none
  | k + 1, x2, x3, x4, x39, x488000, x488001, x488002 => if x39 = true then (some false) else ((boarderref13_KeptFor.f k x488000 x488001 x488002 x2 x3).bind fun bt491 => (if bt491.2 = true then (boarderref15_May.j1 k x2 x3 x4 (x4 == bt491.1) x488000 x488001 x488002) else (boarderref15_May.j1 k x2 x3 x4 false x488000 x488001 x488002)))
def boarderref15_May.j1 : Nat → Int → ByteArray → Int → Bool → Int → Int → List (S41) → Option (Bool)
  | 0, _, _, _, _, _, _, _ => none
  | k + 1, x2, x3, x4, x52, x488000, x488001, x488002 => if x52 = true then (some true) else ((boarderref13_Keeper.f k x488000 x488001 x488002 x4).bind fun bt493 => ((boarderref13_InPool.f k x488000 x488001 x488002 x2 x4).bind fun t495 => (if t495 = true then (if bt493.2 = true then (some (bt493.1.toList == x3.toList)) else (some true)) else (some false))))
end
def boarderref15_May.f (k : Nat) (a0_0 : Int) (a0_1 : Int) (l0_2 : List (S41)) (l1 : List (S47)) (a2 : Int) (a3 : ByteArray) (a4 : Int) (a5 : Int) : Option (Bool) := (boarderref15_Fair.f k a0_0 a0_1 l0_2 l1 a2 a3).bind fun t488 => (if t488 = true then ((boarderref15_other.f k a0_0 a0_1 l0_2 l1 a2 a3 a4 a5).bind fun t489 => (if t489 = true then (boarderref15_May.j0 k a2 a3 a4 true a0_0 a0_1 l0_2) else ((boarderref12_Free.f k l1 a4 a3 a5).bind fun t490 => (boarderref15_May.j0 k a2 a3 a4 (!t490) a0_0 a0_1 l0_2)))) else (boarderref15_May.j0 k a2 a3 a4 true a0_0 a0_1 l0_2))
noncomputable def boarderref15_May.cx : Cx := ⟨Try.prog, tys, glo, 72, Try.f31, [.tmp 12]⟩
set_option maxHeartbeats 16000000 in
set_option maxRecDepth 100000 in
theorem boarderref15_May.ok {k : Nat} {a0_0 : Int} {a0_1 : Int} {l0_2 : List (S41)} {l1 : List (S47)} {a2 : Int} {a3 : ByteArray} {a4 : Int} {a5 : Int} {r0 : Bool} (H : boarderref15_May.f k a0_0 a0_1 l0_2 l1 a2 a3 a4 a5 = some r0) : CallOK Try.prog glo 31 [.agg [.imm (.int .i64 a0_0), .imm (.int .i64 a0_1), vS41 l0_2], vS47 l1, .imm (.int .i64 a2), .imm (.string a3), .imm (.int .i64 a4), .imm (.int .i64 a5)] (.imm (.bool r0)) := by
  unfold boarderref15_May.f at H
  refine CallOK.of (c := boarderref15_May.cx) Try.func31 (show (boarderref15_May.cx).fn.body = some _ from rfl) rfl rfl (Nat.le_of_ble_eq_true rfl) ?_
  repeat' (first
    | ((with_reducible have hJ : boarderref15_May.j0 k _ _ _ _ _ _ _ = some _ := H); clear hJ; (rcases k with _ | k); (rw [boarderref15_May.j0] at H; cases H); (rw [boarderref15_May.j0] at H))
    | ((with_reducible have hJ : boarderref15_May.j1 k _ _ _ _ _ _ _ = some _ := H); clear hJ; (rcases k with _ | k); (rw [boarderref15_May.j1] at H; cases H); (rw [boarderref15_May.j1] at H))
    | ((with_reducible replace H := some_ite H); obtain ⟨_, H⟩ := H)
    | (with_reducible replace H := some_bind_ H)
    | (with_reducible replace H := true_ite H)
    | (with_reducible replace H := false_ite H)
    | ((with_reducible have hb := bool_ite H); clear H; rcases hb with ⟨e_, H⟩ | ⟨e_, H⟩ <;> subst e_)
    | ((with_reducible have hb := bool_iteN H); clear H; rcases hb with ⟨e_, H⟩ | ⟨e_, H⟩ <;> subst e_)
    | ((with_reducible apply ROps.pure); (case hop => rfl); (case hw => rfl); (case hdst => rfl); (case hd => rfl))
    | (with_reducible apply ROps.nil)
    | (with_reducible apply Runs.seq)
    | (with_reducible apply Runs.region tysOK)
    | (with_reducible apply Runs.skip)
    | (with_reducible apply Runs.scope)
    | (with_reducible apply Runs.inScope)
    | (with_reducible apply Runs.label)
    | ((with_reducible apply Runs.condT); (case ho => rfl))
    | ((with_reducible apply Runs.condF); (case ho => rfl))
    | ((with_reducible apply ROps.cmp); (case hop => exact cmpX); (case hw => rfl); (case hdst => rfl); (case hd => rfl); (all_goals (intro h; first | (replace H := ite_pos_ h H) | (replace H := ite_neg_ h H) | (replace H := dec_pos h H) | (replace H := dec_neg h H) | (replace H := dec_t h H) | (replace H := dec_f h H) | (replace H := beq_pos h H) | (replace H := beq_neg h H) | (replace H := beq_tt h H) | (replace H := beq_ff h H) | (replace H := ite_pos_ (Decidable.not_not.1 h) H) | (replace H := beq_pos (Decidable.not_not.1 h) H) | (replace H := beq_tt (Decidable.not_not.1 h) H) | ((try simp only [rdOf] at h); (try simp only [rdOf] at H); (rw [decide_eq_true h] at H)) | ((try simp only [rdOf] at h); (try simp only [rdOf] at H); (rw [decide_eq_false h] at H)) | ((try simp only [rdOf] at h); (try simp only [rdOf] at H); (rw [beq_t h] at H)) | ((try simp only [rdOf] at h); (try simp only [rdOf] at H); (rw [beq_f h] at H)) | ((try simp only [rdOf] at h); (try simp only [rdOf] at H); (rw [beq_t (Decidable.not_not.1 h)] at H)) | ((try simp only [rdOf] at h); (try simp only [rdOf] at H); (rw [if_pos h] at H)) | ((try simp only [rdOf] at h); (try simp only [rdOf] at H); (rw [if_neg h] at H)) | contradiction | skip)))
    | ((with_reducible apply ROps.val); (case hop => exact valX); (case hw => rfl); (case hdst => rfl); (case hd => rfl))
    | ((with_reducible apply ROps.box); (case hop => rfl); (case hx => rfl); (case hrf => rfl); (all_goals try rfl))
    | ((with_reducible apply ROps.off); (case hw => rfl); (case hdst => rfl); (case hd => rfl))
    | ((with_reducible have hB : (boarderref13_KeptFor.f _ _ _ _ _ _).bind _ = some _ := H); clear hB; (replace H := bind_some' H); (obtain ⟨⟨t_0, t_1⟩, H1, H⟩ := H); (try dsimp only at H); (with_reducible apply ROps.call); (case hop => rfl); (case hc => exact boarderref13_KeptFor.ok H1); (case ha => exact argsX); (case hw => rfl); (case hdst => rfl); (case hd => rfl))
    | ((with_reducible have hB : (boarderref13_Keeper.f _ _ _ _ _).bind _ = some _ := H); clear hB; (replace H := bind_some' H); (obtain ⟨⟨t_0, t_1⟩, H1, H⟩ := H); (try dsimp only at H); (with_reducible apply ROps.call); (case hop => rfl); (case hc => exact boarderref13_Keeper.ok H1); (case ha => exact argsX); (case hw => rfl); (case hdst => rfl); (case hd => rfl))
    | ((with_reducible have hB : (boarderref13_InPool.f _ _ _ _ _ _).bind _ = some _ := H); clear hB; (replace H := bind_some' H); (obtain ⟨t_, H1, H⟩ := H); (try dsimp only at H); (with_reducible apply ROps.call); (case hop => rfl); (case hc => exact boarderref13_InPool.ok H1); (case ha => exact argsX); (case hw => rfl); (case hdst => rfl); (case hd => rfl))
    | ((with_reducible have hB : (boarderref15_Fair.f _ _ _ _ _ _ _).bind _ = some _ := H); clear hB; (replace H := bind_some' H); (obtain ⟨t_, H1, H⟩ := H); (try dsimp only at H); (with_reducible apply ROps.call); (case hop => rfl); (case hc => exact boarderref15_Fair.ok H1); (case ha => exact argsX); (case hw => rfl); (case hdst => rfl); (case hd => rfl))
    | ((with_reducible have hB : (boarderref15_other.f _ _ _ _ _ _ _ _ _).bind _ = some _ := H); clear hB; (replace H := bind_some' H); (obtain ⟨t_, H1, H⟩ := H); (try dsimp only at H); (with_reducible apply ROps.call); (case hop => rfl); (case hc => exact boarderref15_other.ok H1); (case ha => exact argsX); (case hw => rfl); (case hdst => rfl); (case hd => rfl))
    | ((with_reducible have hB : (boarderref12_Free.f _ _ _ _ _).bind _ = some _ := H); clear hB; (replace H := bind_some' H); (obtain ⟨t_, H1, H⟩ := H); (try dsimp only at H); (with_reducible apply ROps.call); (case hop => rfl); (case hc => exact boarderref12_Free.ok H1); (case ha => exact argsX); (case hw => rfl); (case hdst => rfl); (case hd => rfl))
    | ((with_reducible apply Runs.retP tysOK); (case hrs => rfl); (case h => rfl); (case hr => (cases H; exact refX)); (case hx => rfl))
    | exact leRX)
end Go.Proofs.Ytdcabfonjmeajaa.PAlloc
set_option linter.unusedVariables false
namespace Go.Proofs.Ytdcabfonjmeajaa.PAlloc
open Go.RowKit Go.Proofs.YtdcabfonjmeajaaW.PrintWords Go.Proofs.YtdcabfonjmeajaaW.PrintLast Go.Proofs.YtdcabfonjmeajaaW.PrintMore
set_option maxHeartbeats 8000000 in
theorem table_Right.mono_l : ∀ k, (∀ y0 y1 y2 y3, LeO (table_Right.l0 k y0 y1 y2 y3) (table_Right.l0 (k + 1) y0 y1 y2 y3))
  | 0 => fun _ _ _ _ r h => by simp [table_Right.l0] at h
  | k + 1 => by
    have ih0 := table_Right.mono_l k
    intro y0 y1 y2 y3
    unfold table_Right.l0
    all_goals (repeat' first
      | (with_reducible exact ih0 _ _ _ _)
      | (with_reducible exact LeO.refl _)
      | (with_reducible exact LeO.none _)
      | (with_reducible refine LeO.ite ?_ ?_)
      | (with_reducible refine LeO.bind ?_ (fun _ => ?_)))
theorem table_Right.mono : ∀ a0 k, LeO (table_Right.f k a0) (table_Right.f (k + 1) a0) := by
 intro a0 k
 have ih0 := table_Right.mono_l k
 unfold table_Right.f
 repeat' first
  | (with_reducible exact ih0 _ _ _ _)
  | (with_reducible exact LeO.refl _)
  | (with_reducible exact LeO.none _)
  | (with_reducible refine LeO.ite ?_ ?_)
  | (with_reducible refine LeO.bind ?_ (fun _ => ?_))
theorem table_good.mono : ∀ a0 k, LeO (table_good.f k a0) (table_good.f (k + 1) a0) := by
 intro a0 k
 unfold table_good.f
 repeat' first
  | (with_reducible exact table_Right.mono _ _)
  | (with_reducible exact LeO.refl _)
  | (with_reducible exact LeO.none _)
  | (with_reducible refine LeO.ite ?_ ?_)
  | (with_reducible refine LeO.bind ?_ (fun _ => ?_))
set_option maxHeartbeats 8000000 in
theorem table_Of.mono_l : ∀ k, (∀ y0 y1 y2 y3 y4, LeO (table_Of.l0 k y0 y1 y2 y3 y4) (table_Of.l0 (k + 1) y0 y1 y2 y3 y4))
  | 0 => fun _ _ _ _ _ r h => by simp [table_Of.l0] at h
  | k + 1 => by
    have ih0 := table_Of.mono_l k
    intro y0 y1 y2 y3 y4
    unfold table_Of.l0
    all_goals (repeat' first
      | (with_reducible exact ih0 _ _ _ _ _)
      | (with_reducible exact table_good.mono _ _)
      | (with_reducible exact LeO.refl _)
      | (with_reducible exact LeO.none _)
      | (with_reducible refine LeO.ite ?_ ?_)
      | (with_reducible refine LeO.bind ?_ (fun _ => ?_)))
theorem table_Of.mono : ∀ a0 a1 k, LeO (table_Of.f k a0 a1) (table_Of.f (k + 1) a0 a1) := by
 intro a0 a1 k
 have ih0 := table_Of.mono_l k
 unfold table_Of.f
 repeat' first
  | (with_reducible exact ih0 _ _ _ _ _)
  | (with_reducible exact table_good.mono _ _)
  | (with_reducible exact LeO.refl _)
  | (with_reducible exact LeO.none _)
  | (with_reducible refine LeO.ite ?_ ?_)
  | (with_reducible refine LeO.bind ?_ (fun _ => ?_))
set_option maxHeartbeats 8000000 in
theorem conf_spots.mono_l : ∀ k, (∀ y0 y1 y2 y3, LeO (conf_spots.l0 k y0 y1 y2 y3) (conf_spots.l0 (k + 1) y0 y1 y2 y3)) ∧ (∀ y0 y1 y2 y3 y4 y5 y6 y7, LeO (conf_spots.l1 k y0 y1 y2 y3 y4 y5 y6 y7) (conf_spots.l1 (k + 1) y0 y1 y2 y3 y4 y5 y6 y7))
  | 0 => ⟨fun _ _ _ _ r h => by simp [conf_spots.l0] at h, fun _ _ _ _ _ _ _ _ r h => by simp [conf_spots.l1] at h⟩
  | k + 1 => by
    obtain ⟨ih0, ih1⟩ := conf_spots.mono_l k
    refine ⟨?_, ?_⟩
    · intro y0 y1 y2 y3
      unfold conf_spots.l0
      all_goals (repeat' first
      | (with_reducible exact ih0 _ _ _ _)
      | (with_reducible exact ih1 _ _ _ _ _ _ _ _)
      | (with_reducible exact LeO.refl _)
      | (with_reducible exact LeO.none _)
      | (with_reducible refine LeO.ite ?_ ?_)
      | (with_reducible refine LeO.bind ?_ (fun _ => ?_)))
    · intro y0 y1 y2 y3 y4 y5 y6 y7
      unfold conf_spots.l1
      all_goals (repeat' first
      | (with_reducible exact ih0 _ _ _ _)
      | (with_reducible exact ih1 _ _ _ _ _ _ _ _)
      | (with_reducible exact LeO.refl _)
      | (with_reducible exact LeO.none _)
      | (with_reducible refine LeO.ite ?_ ?_)
      | (with_reducible refine LeO.bind ?_ (fun _ => ?_)))
theorem conf_spots.mono : ∀ a0 a1 a2 k, LeO (conf_spots.f k a0 a1 a2) (conf_spots.f (k + 1) a0 a1 a2) := by
 intro a0 a1 a2 k
 obtain ⟨ih0, ih1⟩ := conf_spots.mono_l k
 unfold conf_spots.f
 repeat' first
  | (with_reducible exact ih0 _ _ _ _)
  | (with_reducible exact ih1 _ _ _ _ _ _ _ _)
  | (with_reducible exact LeO.refl _)
  | (with_reducible exact LeO.none _)
  | (with_reducible refine LeO.ite ?_ ?_)
  | (with_reducible refine LeO.bind ?_ (fun _ => ?_))
set_option maxHeartbeats 8000000 in
theorem conf_fair.mono_l : ∀ k, (∀ y0 y1 y2 y3 y4 y5 y6 y7, LeO (conf_fair.j0 k y0 y1 y2 y3 y4 y5 y6 y7) (conf_fair.j0 (k + 1) y0 y1 y2 y3 y4 y5 y6 y7)) ∧ (∀ y0 y1 y2 y3 y4 y5 y6 y7 y8 y9, LeO (conf_fair.l0 k y0 y1 y2 y3 y4 y5 y6 y7 y8 y9) (conf_fair.l0 (k + 1) y0 y1 y2 y3 y4 y5 y6 y7 y8 y9)) ∧ (∀ y0 y1 y2, LeO (conf_fair.l1 k y0 y1 y2) (conf_fair.l1 (k + 1) y0 y1 y2))
  | 0 => ⟨fun _ _ _ _ _ _ _ _ r h => by simp [conf_fair.j0] at h, fun _ _ _ _ _ _ _ _ _ _ r h => by simp [conf_fair.l0] at h, fun _ _ _ r h => by simp [conf_fair.l1] at h⟩
  | k + 1 => by
    obtain ⟨ih0, ih1, ih2⟩ := conf_fair.mono_l k
    refine ⟨?_, ?_, ?_⟩
    · intro y0 y1 y2 y3 y4 y5 y6 y7
      unfold conf_fair.j0
      all_goals (repeat' first
      | (with_reducible exact ih0 _ _ _ _ _ _ _ _)
      | (with_reducible exact ih1 _ _ _ _ _ _ _ _ _ _)
      | (with_reducible exact ih2 _ _ _)
      | (with_reducible exact LeO.refl _)
      | (with_reducible exact LeO.none _)
      | (with_reducible refine LeO.ite ?_ ?_)
      | (with_reducible refine LeO.bind ?_ (fun _ => ?_)))
    · intro y0 y1 y2 y3 y4 y5 y6 y7 y8 y9
      unfold conf_fair.l0
      all_goals (repeat' first
      | (with_reducible exact ih0 _ _ _ _ _ _ _ _)
      | (with_reducible exact ih1 _ _ _ _ _ _ _ _ _ _)
      | (with_reducible exact ih2 _ _ _)
      | (with_reducible exact LeO.refl _)
      | (with_reducible exact LeO.none _)
      | (with_reducible refine LeO.ite ?_ ?_)
      | (with_reducible refine LeO.bind ?_ (fun _ => ?_)))
    · intro y0 y1 y2
      unfold conf_fair.l1
      all_goals (repeat' first
      | (with_reducible exact ih0 _ _ _ _ _ _ _ _)
      | (with_reducible exact ih1 _ _ _ _ _ _ _ _ _ _)
      | (with_reducible exact ih2 _ _ _)
      | (with_reducible exact LeO.refl _)
      | (with_reducible exact LeO.none _)
      | (with_reducible refine LeO.ite ?_ ?_)
      | (with_reducible refine LeO.bind ?_ (fun _ => ?_)))
theorem conf_fair.mono : ∀ a0 a1 a2 a3 a4 a5 a6 k, LeO (conf_fair.f k a0 a1 a2 a3 a4 a5 a6) (conf_fair.f (k + 1) a0 a1 a2 a3 a4 a5 a6) := by
 intro a0 a1 a2 a3 a4 a5 a6 k
 obtain ⟨ih0, ih1, ih2⟩ := conf_fair.mono_l k
 unfold conf_fair.f
 repeat' first
  | (with_reducible exact ih0 _ _ _ _ _ _ _ _)
  | (with_reducible exact ih1 _ _ _ _ _ _ _ _ _ _)
  | (with_reducible exact ih2 _ _ _)
  | (with_reducible exact LeO.refl _)
  | (with_reducible exact LeO.none _)
  | (with_reducible refine LeO.ite ?_ ?_)
  | (with_reducible refine LeO.bind ?_ (fun _ => ?_))
set_option maxHeartbeats 8000000 in
theorem conf_form.mono_l : ∀ k, (∀ y0 y1 y2 y3, LeO (conf_form.j0 k y0 y1 y2 y3) (conf_form.j0 (k + 1) y0 y1 y2 y3)) ∧ (∀ y0 y1 y2 y3 y4 y5, LeO (conf_form.l0 k y0 y1 y2 y3 y4 y5) (conf_form.l0 (k + 1) y0 y1 y2 y3 y4 y5)) ∧ (∀ y0 y1 y2, LeO (conf_form.l1 k y0 y1 y2) (conf_form.l1 (k + 1) y0 y1 y2))
  | 0 => ⟨fun _ _ _ _ r h => by simp [conf_form.j0] at h, fun _ _ _ _ _ _ r h => by simp [conf_form.l0] at h, fun _ _ _ r h => by simp [conf_form.l1] at h⟩
  | k + 1 => by
    obtain ⟨ih0, ih1, ih2⟩ := conf_form.mono_l k
    refine ⟨?_, ?_, ?_⟩
    · intro y0 y1 y2 y3
      unfold conf_form.j0
      all_goals (repeat' first
      | (with_reducible exact ih0 _ _ _ _)
      | (with_reducible exact ih1 _ _ _ _ _ _)
      | (with_reducible exact ih2 _ _ _)
      | (with_reducible exact conf_spots.mono _ _ _ _)
      | (with_reducible exact conf_fair.mono _ _ _ _ _ _ _ _)
      | (with_reducible exact LeO.refl _)
      | (with_reducible exact LeO.none _)
      | (with_reducible refine LeO.ite ?_ ?_)
      | (with_reducible refine LeO.bind ?_ (fun _ => ?_)))
    · intro y0 y1 y2 y3 y4 y5
      unfold conf_form.l0
      all_goals (repeat' first
      | (with_reducible exact ih0 _ _ _ _)
      | (with_reducible exact ih1 _ _ _ _ _ _)
      | (with_reducible exact ih2 _ _ _)
      | (with_reducible exact conf_spots.mono _ _ _ _)
      | (with_reducible exact conf_fair.mono _ _ _ _ _ _ _ _)
      | (with_reducible exact LeO.refl _)
      | (with_reducible exact LeO.none _)
      | (with_reducible refine LeO.ite ?_ ?_)
      | (with_reducible refine LeO.bind ?_ (fun _ => ?_)))
    · intro y0 y1 y2
      unfold conf_form.l1
      all_goals (repeat' first
      | (with_reducible exact ih0 _ _ _ _)
      | (with_reducible exact ih1 _ _ _ _ _ _)
      | (with_reducible exact ih2 _ _ _)
      | (with_reducible exact conf_spots.mono _ _ _ _)
      | (with_reducible exact conf_fair.mono _ _ _ _ _ _ _ _)
      | (with_reducible exact LeO.refl _)
      | (with_reducible exact LeO.none _)
      | (with_reducible refine LeO.ite ?_ ?_)
      | (with_reducible refine LeO.bind ?_ (fun _ => ?_)))
theorem conf_form.mono : ∀ a0 a1 a2 k, LeO (conf_form.f k a0 a1 a2) (conf_form.f (k + 1) a0 a1 a2) := by
 intro a0 a1 a2 k
 obtain ⟨ih0, ih1, ih2⟩ := conf_form.mono_l k
 unfold conf_form.f
 repeat' first
  | (with_reducible exact ih0 _ _ _ _)
  | (with_reducible exact ih1 _ _ _ _ _ _)
  | (with_reducible exact ih2 _ _ _)
  | (with_reducible exact conf_spots.mono _ _ _ _)
  | (with_reducible exact conf_fair.mono _ _ _ _ _ _ _ _)
  | (with_reducible exact LeO.refl _)
  | (with_reducible exact LeO.none _)
  | (with_reducible refine LeO.ite ?_ ?_)
  | (with_reducible refine LeO.bind ?_ (fun _ => ?_))
set_option maxHeartbeats 8000000 in
theorem conf_placed.mono_l : ∀ k, (∀ y0 y1 y2 y3 y4 y5, LeO (conf_placed.l0 k y0 y1 y2 y3 y4 y5) (conf_placed.l0 (k + 1) y0 y1 y2 y3 y4 y5)) ∧ (∀ y0 y1 y2 y3 y4 y5 y6 y7 y8 y9 y10 y11 y12 y13 y14 y15 y16 y17, LeO (conf_placed.l1 k y0 y1 y2 y3 y4 y5 y6 y7 y8 y9 y10 y11 y12 y13 y14 y15 y16 y17) (conf_placed.l1 (k + 1) y0 y1 y2 y3 y4 y5 y6 y7 y8 y9 y10 y11 y12 y13 y14 y15 y16 y17)) ∧ (∀ y0 y1 y2 y3 y4 y5 y6 y7 y8 y9 y10 y11 y12 y13 y14 y15 y16 y17, LeO (conf_placed.l2 k y0 y1 y2 y3 y4 y5 y6 y7 y8 y9 y10 y11 y12 y13 y14 y15 y16 y17) (conf_placed.l2 (k + 1) y0 y1 y2 y3 y4 y5 y6 y7 y8 y9 y10 y11 y12 y13 y14 y15 y16 y17))
  | 0 => ⟨fun _ _ _ _ _ _ r h => by simp [conf_placed.l0] at h, fun _ _ _ _ _ _ _ _ _ _ _ _ _ _ _ _ _ _ r h => by simp [conf_placed.l1] at h, fun _ _ _ _ _ _ _ _ _ _ _ _ _ _ _ _ _ _ r h => by simp [conf_placed.l2] at h⟩
  | k + 1 => by
    obtain ⟨ih0, ih1, ih2⟩ := conf_placed.mono_l k
    refine ⟨?_, ?_, ?_⟩
    · intro y0 y1 y2 y3 y4 y5
      unfold conf_placed.l0
      all_goals (repeat' first
      | (with_reducible exact ih0 _ _ _ _ _ _)
      | (with_reducible exact ih1 _ _ _ _ _ _ _ _ _ _ _ _ _ _ _ _ _ _)
      | (with_reducible exact ih2 _ _ _ _ _ _ _ _ _ _ _ _ _ _ _ _ _ _)
      | (with_reducible exact conf_spots.mono _ _ _ _)
      | (with_reducible exact LeO.refl _)
      | (with_reducible exact LeO.none _)
      | (with_reducible refine LeO.ite ?_ ?_)
      | (with_reducible refine LeO.bind ?_ (fun _ => ?_)))
    · intro y0 y1 y2 y3 y4 y5 y6 y7 y8 y9 y10 y11 y12 y13 y14 y15 y16 y17
      unfold conf_placed.l1
      all_goals (repeat' first
      | (with_reducible exact ih0 _ _ _ _ _ _)
      | (with_reducible exact ih1 _ _ _ _ _ _ _ _ _ _ _ _ _ _ _ _ _ _)
      | (with_reducible exact ih2 _ _ _ _ _ _ _ _ _ _ _ _ _ _ _ _ _ _)
      | (with_reducible exact conf_spots.mono _ _ _ _)
      | (with_reducible exact LeO.refl _)
      | (with_reducible exact LeO.none _)
      | (with_reducible refine LeO.ite ?_ ?_)
      | (with_reducible refine LeO.bind ?_ (fun _ => ?_)))
    · intro y0 y1 y2 y3 y4 y5 y6 y7 y8 y9 y10 y11 y12 y13 y14 y15 y16 y17
      unfold conf_placed.l2
      all_goals (repeat' first
      | (with_reducible exact ih0 _ _ _ _ _ _)
      | (with_reducible exact ih1 _ _ _ _ _ _ _ _ _ _ _ _ _ _ _ _ _ _)
      | (with_reducible exact ih2 _ _ _ _ _ _ _ _ _ _ _ _ _ _ _ _ _ _)
      | (with_reducible exact conf_spots.mono _ _ _ _)
      | (with_reducible exact LeO.refl _)
      | (with_reducible exact LeO.none _)
      | (with_reducible refine LeO.ite ?_ ?_)
      | (with_reducible refine LeO.bind ?_ (fun _ => ?_)))
theorem conf_placed.mono : ∀ a0 a1 a2 k, LeO (conf_placed.f k a0 a1 a2) (conf_placed.f (k + 1) a0 a1 a2) := by
 intro a0 a1 a2 k
 obtain ⟨ih0, ih1, ih2⟩ := conf_placed.mono_l k
 unfold conf_placed.f
 repeat' first
  | (with_reducible exact ih0 _ _ _ _ _ _)
  | (with_reducible exact ih1 _ _ _ _ _ _ _ _ _ _ _ _ _ _ _ _ _ _)
  | (with_reducible exact ih2 _ _ _ _ _ _ _ _ _ _ _ _ _ _ _ _ _ _)
  | (with_reducible exact conf_spots.mono _ _ _ _)
  | (with_reducible exact LeO.refl _)
  | (with_reducible exact LeO.none _)
  | (with_reducible refine LeO.ite ?_ ?_)
  | (with_reducible refine LeO.bind ?_ (fun _ => ?_))
set_option maxHeartbeats 8000000 in
theorem conf_once.mono_l : ∀ k, (∀ y0 y1 y2 y3 y4 y5 y6 y7 y8 y9 y10 y11 y12 y13 y14 y15 y16 y17 y18 y19, LeO (conf_once.j0 k y0 y1 y2 y3 y4 y5 y6 y7 y8 y9 y10 y11 y12 y13 y14 y15 y16 y17 y18 y19) (conf_once.j0 (k + 1) y0 y1 y2 y3 y4 y5 y6 y7 y8 y9 y10 y11 y12 y13 y14 y15 y16 y17 y18 y19)) ∧ (∀ y0 y1 y2 y3 y4 y5 y6 y7 y8 y9 y10 y11 y12 y13 y14 y15 y16 y17 y18 y19 y20 y21, LeO (conf_once.l0 k y0 y1 y2 y3 y4 y5 y6 y7 y8 y9 y10 y11 y12 y13 y14 y15 y16 y17 y18 y19 y20 y21) (conf_once.l0 (k + 1) y0 y1 y2 y3 y4 y5 y6 y7 y8 y9 y10 y11 y12 y13 y14 y15 y16 y17 y18 y19 y20 y21)) ∧ (∀ y0 y1 y2 y3 y4 y5 y6 y7 y8 y9 y10 y11 y12 y13 y14 y15 y16 y17 y18 y19 y20 y21 y22 y23 y24 y25 y26 y27, LeO (conf_once.l1 k y0 y1 y2 y3 y4 y5 y6 y7 y8 y9 y10 y11 y12 y13 y14 y15 y16 y17 y18 y19 y20 y21 y22 y23 y24 y25 y26 y27) (conf_once.l1 (k + 1) y0 y1 y2 y3 y4 y5 y6 y7 y8 y9 y10 y11 y12 y13 y14 y15 y16 y17 y18 y19 y20 y21 y22 y23 y24 y25 y26 y27)) ∧ (∀ y0 y1 y2 y3 y4 y5 y6 y7 y8 y9 y10 y11 y12 y13 y14 y15 y16 y17 y18 y19 y20 y21, LeO (conf_once.l2 k y0 y1 y2 y3 y4 y5 y6 y7 y8 y9 y10 y11 y12 y13 y14 y15 y16 y17 y18 y19 y20 y21) (conf_once.l2 (k + 1) y0 y1 y2 y3 y4 y5 y6 y7 y8 y9 y10 y11 y12 y13 y14 y15 y16 y17 y18 y19 y20 y21)) ∧ (∀ y0 y1 y2 y3 y4 y5 y6 y7 y8 y9 y10 y11 y12 y13 y14 y15 y16 y17 y18 y19 y20 y21 y22 y23 y24 y25 y26 y27, LeO (conf_once.l3 k y0 y1 y2 y3 y4 y5 y6 y7 y8 y9 y10 y11 y12 y13 y14 y15 y16 y17 y18 y19 y20 y21 y22 y23 y24 y25 y26 y27) (conf_once.l3 (k + 1) y0 y1 y2 y3 y4 y5 y6 y7 y8 y9 y10 y11 y12 y13 y14 y15 y16 y17 y18 y19 y20 y21 y22 y23 y24 y25 y26 y27))
  | 0 => ⟨fun _ _ _ _ _ _ _ _ _ _ _ _ _ _ _ _ _ _ _ _ r h => by simp [conf_once.j0] at h, fun _ _ _ _ _ _ _ _ _ _ _ _ _ _ _ _ _ _ _ _ _ _ r h => by simp [conf_once.l0] at h, fun _ _ _ _ _ _ _ _ _ _ _ _ _ _ _ _ _ _ _ _ _ _ _ _ _ _ _ _ r h => by simp [conf_once.l1] at h, fun _ _ _ _ _ _ _ _ _ _ _ _ _ _ _ _ _ _ _ _ _ _ r h => by simp [conf_once.l2] at h, fun _ _ _ _ _ _ _ _ _ _ _ _ _ _ _ _ _ _ _ _ _ _ _ _ _ _ _ _ r h => by simp [conf_once.l3] at h⟩
  | k + 1 => by
    obtain ⟨ih0, ih1, ih2, ih3, ih4⟩ := conf_once.mono_l k
    refine ⟨?_, ?_, ?_, ?_, ?_⟩
    · intro y0 y1 y2 y3 y4 y5 y6 y7 y8 y9 y10 y11 y12 y13 y14 y15 y16 y17 y18 y19
      unfold conf_once.j0
      all_goals (repeat' first
      | (with_reducible exact ih0 _ _ _ _ _ _ _ _ _ _ _ _ _ _ _ _ _ _ _ _)
      | (with_reducible exact ih1 _ _ _ _ _ _ _ _ _ _ _ _ _ _ _ _ _ _ _ _ _ _)
      | (with_reducible exact ih2 _ _ _ _ _ _ _ _ _ _ _ _ _ _ _ _ _ _ _ _ _ _ _ _ _ _ _ _)
      | (with_reducible exact ih3 _ _ _ _ _ _ _ _ _ _ _ _ _ _ _ _ _ _ _ _ _ _)
      | (with_reducible exact ih4 _ _ _ _ _ _ _ _ _ _ _ _ _ _ _ _ _ _ _ _ _ _ _ _ _ _ _ _)
      | (with_reducible exact LeO.refl _)
      | (with_reducible exact LeO.none _)
      | (with_reducible refine LeO.ite ?_ ?_)
      | (with_reducible refine LeO.bind ?_ (fun _ => ?_)))
    · intro y0 y1 y2 y3 y4 y5 y6 y7 y8 y9 y10 y11 y12 y13 y14 y15 y16 y17 y18 y19 y20 y21
      unfold conf_once.l0
      all_goals (repeat' first
      | (with_reducible exact ih0 _ _ _ _ _ _ _ _ _ _ _ _ _ _ _ _ _ _ _ _)
      | (with_reducible exact ih1 _ _ _ _ _ _ _ _ _ _ _ _ _ _ _ _ _ _ _ _ _ _)
      | (with_reducible exact ih2 _ _ _ _ _ _ _ _ _ _ _ _ _ _ _ _ _ _ _ _ _ _ _ _ _ _ _ _)
      | (with_reducible exact ih3 _ _ _ _ _ _ _ _ _ _ _ _ _ _ _ _ _ _ _ _ _ _)
      | (with_reducible exact ih4 _ _ _ _ _ _ _ _ _ _ _ _ _ _ _ _ _ _ _ _ _ _ _ _ _ _ _ _)
      | (with_reducible exact LeO.refl _)
      | (with_reducible exact LeO.none _)
      | (with_reducible refine LeO.ite ?_ ?_)
      | (with_reducible refine LeO.bind ?_ (fun _ => ?_)))
    · intro y0 y1 y2 y3 y4 y5 y6 y7 y8 y9 y10 y11 y12 y13 y14 y15 y16 y17 y18 y19 y20 y21 y22 y23 y24 y25 y26 y27
      unfold conf_once.l1
      all_goals (repeat' first
      | (with_reducible exact ih0 _ _ _ _ _ _ _ _ _ _ _ _ _ _ _ _ _ _ _ _)
      | (with_reducible exact ih1 _ _ _ _ _ _ _ _ _ _ _ _ _ _ _ _ _ _ _ _ _ _)
      | (with_reducible exact ih2 _ _ _ _ _ _ _ _ _ _ _ _ _ _ _ _ _ _ _ _ _ _ _ _ _ _ _ _)
      | (with_reducible exact ih3 _ _ _ _ _ _ _ _ _ _ _ _ _ _ _ _ _ _ _ _ _ _)
      | (with_reducible exact ih4 _ _ _ _ _ _ _ _ _ _ _ _ _ _ _ _ _ _ _ _ _ _ _ _ _ _ _ _)
      | (with_reducible exact LeO.refl _)
      | (with_reducible exact LeO.none _)
      | (with_reducible refine LeO.ite ?_ ?_)
      | (with_reducible refine LeO.bind ?_ (fun _ => ?_)))
    · intro y0 y1 y2 y3 y4 y5 y6 y7 y8 y9 y10 y11 y12 y13 y14 y15 y16 y17 y18 y19 y20 y21
      unfold conf_once.l2
      all_goals (repeat' first
      | (with_reducible exact ih0 _ _ _ _ _ _ _ _ _ _ _ _ _ _ _ _ _ _ _ _)
      | (with_reducible exact ih1 _ _ _ _ _ _ _ _ _ _ _ _ _ _ _ _ _ _ _ _ _ _)
      | (with_reducible exact ih2 _ _ _ _ _ _ _ _ _ _ _ _ _ _ _ _ _ _ _ _ _ _ _ _ _ _ _ _)
      | (with_reducible exact ih3 _ _ _ _ _ _ _ _ _ _ _ _ _ _ _ _ _ _ _ _ _ _)
      | (with_reducible exact ih4 _ _ _ _ _ _ _ _ _ _ _ _ _ _ _ _ _ _ _ _ _ _ _ _ _ _ _ _)
      | (with_reducible exact LeO.refl _)
      | (with_reducible exact LeO.none _)
      | (with_reducible refine LeO.ite ?_ ?_)
      | (with_reducible refine LeO.bind ?_ (fun _ => ?_)))
    · intro y0 y1 y2 y3 y4 y5 y6 y7 y8 y9 y10 y11 y12 y13 y14 y15 y16 y17 y18 y19 y20 y21 y22 y23 y24 y25 y26 y27
      unfold conf_once.l3
      all_goals (repeat' first
      | (with_reducible exact ih0 _ _ _ _ _ _ _ _ _ _ _ _ _ _ _ _ _ _ _ _)
      | (with_reducible exact ih1 _ _ _ _ _ _ _ _ _ _ _ _ _ _ _ _ _ _ _ _ _ _)
      | (with_reducible exact ih2 _ _ _ _ _ _ _ _ _ _ _ _ _ _ _ _ _ _ _ _ _ _ _ _ _ _ _ _)
      | (with_reducible exact ih3 _ _ _ _ _ _ _ _ _ _ _ _ _ _ _ _ _ _ _ _ _ _)
      | (with_reducible exact ih4 _ _ _ _ _ _ _ _ _ _ _ _ _ _ _ _ _ _ _ _ _ _ _ _ _ _ _ _)
      | (with_reducible exact LeO.refl _)
      | (with_reducible exact LeO.none _)
      | (with_reducible refine LeO.ite ?_ ?_)
      | (with_reducible refine LeO.bind ?_ (fun _ => ?_)))
theorem conf_once.mono : ∀ a0 a1 a2 a3 a4 a5 a6 a7 a8 a9 a10 a11 a12 a13 a14 a15 a16 a17 a18 k, LeO (conf_once.f k a0 a1 a2 a3 a4 a5 a6 a7 a8 a9 a10 a11 a12 a13 a14 a15 a16 a17 a18) (conf_once.f (k + 1) a0 a1 a2 a3 a4 a5 a6 a7 a8 a9 a10 a11 a12 a13 a14 a15 a16 a17 a18) := by
 intro a0 a1 a2 a3 a4 a5 a6 a7 a8 a9 a10 a11 a12 a13 a14 a15 a16 a17 a18 k
 obtain ⟨ih0, ih1, ih2, ih3, ih4⟩ := conf_once.mono_l k
 unfold conf_once.f
 repeat' first
  | (with_reducible exact ih0 _ _ _ _ _ _ _ _ _ _ _ _ _ _ _ _ _ _ _ _)
  | (with_reducible exact ih1 _ _ _ _ _ _ _ _ _ _ _ _ _ _ _ _ _ _ _ _ _ _)
  | (with_reducible exact ih2 _ _ _ _ _ _ _ _ _ _ _ _ _ _ _ _ _ _ _ _ _ _ _ _ _ _ _ _)
  | (with_reducible exact ih3 _ _ _ _ _ _ _ _ _ _ _ _ _ _ _ _ _ _ _ _ _ _)
  | (with_reducible exact ih4 _ _ _ _ _ _ _ _ _ _ _ _ _ _ _ _ _ _ _ _ _ _ _ _ _ _ _ _)
  | (with_reducible exact LeO.refl _)
  | (with_reducible exact LeO.none _)
  | (with_reducible refine LeO.ite ?_ ?_)
  | (with_reducible refine LeO.bind ?_ (fun _ => ?_))
set_option maxHeartbeats 8000000 in
theorem conf_unlike.mono_l : ∀ k, (∀ y0 y1 y2 y3, LeO (conf_unlike.l0 k y0 y1 y2 y3) (conf_unlike.l0 (k + 1) y0 y1 y2 y3)) ∧ (∀ y0 y1 y2 y3 y4 y5 y6 y7 y8 y9 y10 y11 y12 y13 y14 y15 y16, LeO (conf_unlike.l1 k y0 y1 y2 y3 y4 y5 y6 y7 y8 y9 y10 y11 y12 y13 y14 y15 y16) (conf_unlike.l1 (k + 1) y0 y1 y2 y3 y4 y5 y6 y7 y8 y9 y10 y11 y12 y13 y14 y15 y16))
  | 0 => ⟨fun _ _ _ _ r h => by simp [conf_unlike.l0] at h, fun _ _ _ _ _ _ _ _ _ _ _ _ _ _ _ _ _ r h => by simp [conf_unlike.l1] at h⟩
  | k + 1 => by
    obtain ⟨ih0, ih1⟩ := conf_unlike.mono_l k
    refine ⟨?_, ?_⟩
    · intro y0 y1 y2 y3
      unfold conf_unlike.l0
      all_goals (repeat' first
      | (with_reducible exact ih0 _ _ _ _)
      | (with_reducible exact ih1 _ _ _ _ _ _ _ _ _ _ _ _ _ _ _ _ _)
      | (with_reducible exact conf_once.mono _ _ _ _ _ _ _ _ _ _ _ _ _ _ _ _ _ _ _ _)
      | (with_reducible exact conf_spots.mono _ _ _ _)
      | (with_reducible exact LeO.refl _)
      | (with_reducible exact LeO.none _)
      | (with_reducible refine LeO.ite ?_ ?_)
      | (with_reducible refine LeO.bind ?_ (fun _ => ?_)))
    · intro y0 y1 y2 y3 y4 y5 y6 y7 y8 y9 y10 y11 y12 y13 y14 y15 y16
      unfold conf_unlike.l1
      all_goals (repeat' first
      | (with_reducible exact ih0 _ _ _ _)
      | (with_reducible exact ih1 _ _ _ _ _ _ _ _ _ _ _ _ _ _ _ _ _)
      | (with_reducible exact conf_once.mono _ _ _ _ _ _ _ _ _ _ _ _ _ _ _ _ _ _ _ _)
      | (with_reducible exact conf_spots.mono _ _ _ _)
      | (with_reducible exact LeO.refl _)
      | (with_reducible exact LeO.none _)
      | (with_reducible refine LeO.ite ?_ ?_)
      | (with_reducible refine LeO.bind ?_ (fun _ => ?_)))
theorem conf_unlike.mono : ∀ a0 a1 a2 k, LeO (conf_unlike.f k a0 a1 a2) (conf_unlike.f (k + 1) a0 a1 a2) := by
 intro a0 a1 a2 k
 obtain ⟨ih0, ih1⟩ := conf_unlike.mono_l k
 unfold conf_unlike.f
 repeat' first
  | (with_reducible exact ih0 _ _ _ _)
  | (with_reducible exact ih1 _ _ _ _ _ _ _ _ _ _ _ _ _ _ _ _ _)
  | (with_reducible exact conf_once.mono _ _ _ _ _ _ _ _ _ _ _ _ _ _ _ _ _ _ _ _)
  | (with_reducible exact conf_spots.mono _ _ _ _)
  | (with_reducible exact LeO.refl _)
  | (with_reducible exact LeO.none _)
  | (with_reducible refine LeO.ite ?_ ?_)
  | (with_reducible refine LeO.bind ?_ (fun _ => ?_))
theorem conf_Check.mono : ∀ a0 a1 a2 k, LeO (conf_Check.f k a0 a1 a2) (conf_Check.f (k + 1) a0 a1 a2) := by
 intro a0 a1 a2 k
 unfold conf_Check.f
 repeat' first
  | (with_reducible exact conf_form.mono _ _ _ _)
  | (with_reducible exact conf_placed.mono _ _ _ _)
  | (with_reducible exact conf_unlike.mono _ _ _ _)
  | (with_reducible exact LeO.refl _)
  | (with_reducible exact LeO.none _)
  | (with_reducible refine LeO.ite ?_ ?_)
  | (with_reducible refine LeO.bind ?_ (fun _ => ?_))
theorem conf_right.mono : ∀ a0 a1 a2 k, LeO (conf_right.f k a0 a1 a2) (conf_right.f (k + 1) a0 a1 a2) := by
 intro a0 a1 a2 k
 unfold conf_right.f
 repeat' first
  | (with_reducible exact conf_Check.mono _ _ _ _)
  | (with_reducible exact conf_spots.mono _ _ _ _)
  | (with_reducible exact LeO.refl _)
  | (with_reducible exact LeO.none _)
  | (with_reducible refine LeO.ite ?_ ?_)
  | (with_reducible refine LeO.bind ?_ (fun _ => ?_))
set_option maxHeartbeats 8000000 in
theorem conf_Find.mono_l : ∀ k, (∀ y0 y1 y2 y3, LeO (conf_Find.l0 k y0 y1 y2 y3) (conf_Find.l0 (k + 1) y0 y1 y2 y3))
  | 0 => fun _ _ _ _ r h => by simp [conf_Find.l0] at h
  | k + 1 => by
    have ih0 := conf_Find.mono_l k
    intro y0 y1 y2 y3
    unfold conf_Find.l0
    all_goals (repeat' first
      | (with_reducible exact ih0 _ _ _ _)
      | (with_reducible exact conf_right.mono _ _ _ _)
      | (with_reducible exact LeO.refl _)
      | (with_reducible exact LeO.none _)
      | (with_reducible refine LeO.ite ?_ ?_)
      | (with_reducible refine LeO.bind ?_ (fun _ => ?_)))
theorem conf_Find.mono : ∀ a0 a1 a2 a3 k, LeO (conf_Find.f k a0 a1 a2 a3) (conf_Find.f (k + 1) a0 a1 a2 a3) := by
 intro a0 a1 a2 a3 k
 have ih0 := conf_Find.mono_l k
 unfold conf_Find.f
 repeat' first
  | (with_reducible exact ih0 _ _ _ _)
  | (with_reducible exact conf_right.mono _ _ _ _)
  | (with_reducible exact LeO.refl _)
  | (with_reducible exact LeO.none _)
  | (with_reducible refine LeO.ite ?_ ?_)
  | (with_reducible refine LeO.bind ?_ (fun _ => ?_))
theorem alloc_in.mono : ∀ a0 a1 a2 a3 a4 k, LeO (alloc_in.f k a0 a1 a2 a3 a4) (alloc_in.f (k + 1) a0 a1 a2 a3 a4) := by
 intro a0 a1 a2 a3 a4 k
 unfold alloc_in.f
 repeat' first
  | (with_reducible exact conf_Find.mono _ _ _ _ _)
  | (with_reducible exact LeO.refl _)
  | (with_reducible exact LeO.none _)
  | (with_reducible refine LeO.ite ?_ ?_)
  | (with_reducible refine LeO.bind ?_ (fun _ => ?_))
set_option maxHeartbeats 8000000 in
theorem table_place.mono_l : ∀ k, (∀ y0 y1 y2 y3, LeO (table_place.l0 k y0 y1 y2 y3) (table_place.l0 (k + 1) y0 y1 y2 y3))
  | 0 => fun _ _ _ _ r h => by simp [table_place.l0] at h
  | k + 1 => by
    have ih0 := table_place.mono_l k
    intro y0 y1 y2 y3
    unfold table_place.l0
    all_goals (repeat' first
      | (with_reducible exact ih0 _ _ _ _)
      | (with_reducible exact LeO.refl _)
      | (with_reducible exact LeO.none _)
      | (with_reducible refine LeO.ite ?_ ?_)
      | (with_reducible refine LeO.bind ?_ (fun _ => ?_)))
theorem table_place.mono : ∀ a0 a1 k, LeO (table_place.f k a0 a1) (table_place.f (k + 1) a0 a1) := by
 intro a0 a1 k
 have ih0 := table_place.mono_l k
 unfold table_place.f
 repeat' first
  | (with_reducible exact ih0 _ _ _ _)
  | (with_reducible exact LeO.refl _)
  | (with_reducible exact LeO.none _)
  | (with_reducible refine LeO.ite ?_ ?_)
  | (with_reducible refine LeO.bind ?_ (fun _ => ?_))
theorem table_Get.mono : ∀ a0 a1 k, LeO (table_Get.f k a0 a1) (table_Get.f (k + 1) a0 a1) := by
 intro a0 a1 k
 unfold table_Get.f
 repeat' first
  | (with_reducible exact table_good.mono _ _)
  | (with_reducible exact table_place.mono _ _ _)
  | (with_reducible exact LeO.refl _)
  | (with_reducible exact LeO.none _)
  | (with_reducible refine LeO.ite ?_ ?_)
  | (with_reducible refine LeO.bind ?_ (fun _ => ?_))
theorem table_Free.mono : ∀ a0 a1 a2 a3 k, LeO (table_Free.f k a0 a1 a2 a3) (table_Free.f (k + 1) a0 a1 a2 a3) := by
 intro a0 a1 a2 a3 k
 unfold table_Free.f
 repeat' first
  | (with_reducible exact table_Get.mono _ _ _)
  | (with_reducible exact LeO.refl _)
  | (with_reducible exact LeO.none _)
  | (with_reducible refine LeO.ite ?_ ?_)
  | (with_reducible refine LeO.bind ?_ (fun _ => ?_))
set_option maxHeartbeats 8000000 in
theorem conf_InPool.mono_l : ∀ k, (∀ y0 y1 y2 y3 y4, LeO (conf_InPool.l0 k y0 y1 y2 y3 y4) (conf_InPool.l0 (k + 1) y0 y1 y2 y3 y4)) ∧ (∀ y0 y1 y2 y3 y4 y5 y6 y7 y8 y9 y10 y11 y12 y13 y14 y15 y16, LeO (conf_InPool.l1 k y0 y1 y2 y3 y4 y5 y6 y7 y8 y9 y10 y11 y12 y13 y14 y15 y16) (conf_InPool.l1 (k + 1) y0 y1 y2 y3 y4 y5 y6 y7 y8 y9 y10 y11 y12 y13 y14 y15 y16))
  | 0 => ⟨fun _ _ _ _ _ r h => by simp [conf_InPool.l0] at h, fun _ _ _ _ _ _ _ _ _ _ _ _ _ _ _ _ _ r h => by simp [conf_InPool.l1] at h⟩
  | k + 1 => by
    obtain ⟨ih0, ih1⟩ := conf_InPool.mono_l k
    refine ⟨?_, ?_⟩
    · intro y0 y1 y2 y3 y4
      unfold conf_InPool.l0
      all_goals (repeat' first
      | (with_reducible exact ih0 _ _ _ _ _)
      | (with_reducible exact ih1 _ _ _ _ _ _ _ _ _ _ _ _ _ _ _ _ _)
      | (with_reducible exact conf_right.mono _ _ _ _)
      | (with_reducible exact LeO.refl _)
      | (with_reducible exact LeO.none _)
      | (with_reducible refine LeO.ite ?_ ?_)
      | (with_reducible refine LeO.bind ?_ (fun _ => ?_)))
    · intro y0 y1 y2 y3 y4 y5 y6 y7 y8 y9 y10 y11 y12 y13 y14 y15 y16
      unfold conf_InPool.l1
      all_goals (repeat' first
      | (with_reducible exact ih0 _ _ _ _ _)
      | (with_reducible exact ih1 _ _ _ _ _ _ _ _ _ _ _ _ _ _ _ _ _)
      | (with_reducible exact conf_right.mono _ _ _ _)
      | (with_reducible exact LeO.refl _)
      | (with_reducible exact LeO.none _)
      | (with_reducible refine LeO.ite ?_ ?_)
      | (with_reducible refine LeO.bind ?_ (fun _ => ?_)))
theorem conf_InPool.mono : ∀ a0 a1 a2 a3 a4 k, LeO (conf_InPool.f k a0 a1 a2 a3 a4) (conf_InPool.f (k + 1) a0 a1 a2 a3 a4) := by
 intro a0 a1 a2 a3 a4 k
 obtain ⟨ih0, ih1⟩ := conf_InPool.mono_l k
 unfold conf_InPool.f
 repeat' first
  | (with_reducible exact ih0 _ _ _ _ _)
  | (with_reducible exact ih1 _ _ _ _ _ _ _ _ _ _ _ _ _ _ _ _ _)
  | (with_reducible exact conf_right.mono _ _ _ _)
  | (with_reducible exact LeO.refl _)
  | (with_reducible exact LeO.none _)
  | (with_reducible refine LeO.ite ?_ ?_)
  | (with_reducible refine LeO.bind ?_ (fun _ => ?_))
theorem alloc_fair.mono : ∀ a0 a1 a2 a3 a4 a5 k, LeO (alloc_fair.f k a0 a1 a2 a3 a4 a5) (alloc_fair.f (k + 1) a0 a1 a2 a3 a4 a5) := by
 intro a0 a1 a2 a3 a4 a5 k
 unfold alloc_fair.f
 repeat' first
  | (with_reducible exact conf_Check.mono _ _ _ _)
  | (with_reducible exact table_Right.mono _ _)
  | (with_reducible exact LeO.refl _)
  | (with_reducible exact LeO.none _)
  | (with_reducible refine LeO.ite ?_ ?_)
  | (with_reducible refine LeO.bind ?_ (fun _ => ?_))
set_option maxHeartbeats 8000000 in
theorem conf_KeptFor.mono_l : ∀ k, (∀ y0 y1 y2 y3 y4, LeO (conf_KeptFor.l0 k y0 y1 y2 y3 y4) (conf_KeptFor.l0 (k + 1) y0 y1 y2 y3 y4)) ∧ (∀ y0 y1 y2 y3 y4 y5 y6 y7 y8 y9 y10 y11 y12 y13 y14 y15 y16, LeO (conf_KeptFor.l1 k y0 y1 y2 y3 y4 y5 y6 y7 y8 y9 y10 y11 y12 y13 y14 y15 y16) (conf_KeptFor.l1 (k + 1) y0 y1 y2 y3 y4 y5 y6 y7 y8 y9 y10 y11 y12 y13 y14 y15 y16))
  | 0 => ⟨fun _ _ _ _ _ r h => by simp [conf_KeptFor.l0] at h, fun _ _ _ _ _ _ _ _ _ _ _ _ _ _ _ _ _ r h => by simp [conf_KeptFor.l1] at h⟩
  | k + 1 => by
    obtain ⟨ih0, ih1⟩ := conf_KeptFor.mono_l k
    refine ⟨?_, ?_⟩
    · intro y0 y1 y2 y3 y4
      unfold conf_KeptFor.l0
      all_goals (repeat' first
      | (with_reducible exact ih0 _ _ _ _ _)
      | (with_reducible exact ih1 _ _ _ _ _ _ _ _ _ _ _ _ _ _ _ _ _)
      | (with_reducible exact conf_right.mono _ _ _ _)
      | (with_reducible exact LeO.refl _)
      | (with_reducible exact LeO.none _)
      | (with_reducible refine LeO.ite ?_ ?_)
      | (with_reducible refine LeO.bind ?_ (fun _ => ?_)))
    · intro y0 y1 y2 y3 y4 y5 y6 y7 y8 y9 y10 y11 y12 y13 y14 y15 y16
      unfold conf_KeptFor.l1
      all_goals (repeat' first
      | (with_reducible exact ih0 _ _ _ _ _)
      | (with_reducible exact ih1 _ _ _ _ _ _ _ _ _ _ _ _ _ _ _ _ _)
      | (with_reducible exact conf_right.mono _ _ _ _)
      | (with_reducible exact LeO.refl _)
      | (with_reducible exact LeO.none _)
      | (with_reducible refine LeO.ite ?_ ?_)
      | (with_reducible refine LeO.bind ?_ (fun _ => ?_)))
theorem conf_KeptFor.mono : ∀ a0 a1 a2 a3 a4 k, LeO (conf_KeptFor.f k a0 a1 a2 a3 a4) (conf_KeptFor.f (k + 1) a0 a1 a2 a3 a4) := by
 intro a0 a1 a2 a3 a4 k
 obtain ⟨ih0, ih1⟩ := conf_KeptFor.mono_l k
 unfold conf_KeptFor.f
 repeat' first
  | (with_reducible exact ih0 _ _ _ _ _)
  | (with_reducible exact ih1 _ _ _ _ _ _ _ _ _ _ _ _ _ _ _ _ _)
  | (with_reducible exact conf_right.mono _ _ _ _)
  | (with_reducible exact LeO.refl _)
  | (with_reducible exact LeO.none _)
  | (with_reducible refine LeO.ite ?_ ?_)
  | (with_reducible refine LeO.bind ?_ (fun _ => ?_))
set_option maxHeartbeats 8000000 in
theorem conf_Keeper.mono_l : ∀ k, (∀ y0 y1 y2 y3, LeO (conf_Keeper.l0 k y0 y1 y2 y3) (conf_Keeper.l0 (k + 1) y0 y1 y2 y3)) ∧ (∀ y0 y1 y2 y3 y4 y5 y6, LeO (conf_Keeper.l1 k y0 y1 y2 y3 y4 y5 y6) (conf_Keeper.l1 (k + 1) y0 y1 y2 y3 y4 y5 y6))
  | 0 => ⟨fun _ _ _ _ r h => by simp [conf_Keeper.l0] at h, fun _ _ _ _ _ _ _ r h => by simp [conf_Keeper.l1] at h⟩
  | k + 1 => by
    obtain ⟨ih0, ih1⟩ := conf_Keeper.mono_l k
    refine ⟨?_, ?_⟩
    · intro y0 y1 y2 y3
      unfold conf_Keeper.l0
      all_goals (repeat' first
      | (with_reducible exact ih0 _ _ _ _)
      | (with_reducible exact ih1 _ _ _ _ _ _ _)
      | (with_reducible exact conf_right.mono _ _ _ _)
      | (with_reducible exact LeO.refl _)
      | (with_reducible exact LeO.none _)
      | (with_reducible refine LeO.ite ?_ ?_)
      | (with_reducible refine LeO.bind ?_ (fun _ => ?_)))
    · intro y0 y1 y2 y3 y4 y5 y6
      unfold conf_Keeper.l1
      all_goals (repeat' first
      | (with_reducible exact ih0 _ _ _ _)
      | (with_reducible exact ih1 _ _ _ _ _ _ _)
      | (with_reducible exact conf_right.mono _ _ _ _)
      | (with_reducible exact LeO.refl _)
      | (with_reducible exact LeO.none _)
      | (with_reducible refine LeO.ite ?_ ?_)
      | (with_reducible refine LeO.bind ?_ (fun _ => ?_)))
theorem conf_Keeper.mono : ∀ a0 a1 a2 a3 k, LeO (conf_Keeper.f k a0 a1 a2 a3) (conf_Keeper.f (k + 1) a0 a1 a2 a3) := by
 intro a0 a1 a2 a3 k
 obtain ⟨ih0, ih1⟩ := conf_Keeper.mono_l k
 unfold conf_Keeper.f
 repeat' first
  | (with_reducible exact ih0 _ _ _ _)
  | (with_reducible exact ih1 _ _ _ _ _ _ _)
  | (with_reducible exact conf_right.mono _ _ _ _)
  | (with_reducible exact LeO.refl _)
  | (with_reducible exact LeO.none _)
  | (with_reducible refine LeO.ite ?_ ?_)
  | (with_reducible refine LeO.bind ?_ (fun _ => ?_))
set_option maxHeartbeats 8000000 in
theorem alloc_May.mono_l : ∀ k, (∀ y0 y1 y2 y3 y4 y5 y6 y7 y8 y9 y10, LeO (alloc_May.j0 k y0 y1 y2 y3 y4 y5 y6 y7 y8 y9 y10) (alloc_May.j0 (k + 1) y0 y1 y2 y3 y4 y5 y6 y7 y8 y9 y10)) ∧ (∀ y0 y1 y2 y3 y4 y5 y6 y7, LeO (alloc_May.j1 k y0 y1 y2 y3 y4 y5 y6 y7) (alloc_May.j1 (k + 1) y0 y1 y2 y3 y4 y5 y6 y7)) ∧ (∀ y0 y1 y2 y3 y4 y5 y6 y7 y8 y9 y10, LeO (alloc_May.l0 k y0 y1 y2 y3 y4 y5 y6 y7 y8 y9 y10) (alloc_May.l0 (k + 1) y0 y1 y2 y3 y4 y5 y6 y7 y8 y9 y10))
  | 0 => ⟨fun _ _ _ _ _ _ _ _ _ _ _ r h => by simp [alloc_May.j0] at h, fun _ _ _ _ _ _ _ _ r h => by simp [alloc_May.j1] at h, fun _ _ _ _ _ _ _ _ _ _ _ r h => by simp [alloc_May.l0] at h⟩
  | k + 1 => by
    obtain ⟨ih0, ih1, ih2⟩ := alloc_May.mono_l k
    refine ⟨?_, ?_, ?_⟩
    · intro y0 y1 y2 y3 y4 y5 y6 y7 y8 y9 y10
      unfold alloc_May.j0
      all_goals (repeat' first
      | (with_reducible exact ih0 _ _ _ _ _ _ _ _ _ _ _)
      | (with_reducible exact ih1 _ _ _ _ _ _ _ _)
      | (with_reducible exact ih2 _ _ _ _ _ _ _ _ _ _ _)
      | (with_reducible exact table_Of.mono _ _ _)
      | (with_reducible exact alloc_in.mono _ _ _ _ _ _)
      | (with_reducible exact table_Free.mono _ _ _ _ _)
      | (with_reducible exact conf_InPool.mono _ _ _ _ _ _)
      | (with_reducible exact alloc_fair.mono _ _ _ _ _ _ _)
      | (with_reducible exact conf_KeptFor.mono _ _ _ _ _ _)
      | (with_reducible exact conf_Keeper.mono _ _ _ _ _)
      | (with_reducible exact LeO.refl _)
      | (with_reducible exact LeO.none _)
      | (with_reducible refine LeO.ite ?_ ?_)
      | (with_reducible refine LeO.bind ?_ (fun _ => ?_)))
    · intro y0 y1 y2 y3 y4 y5 y6 y7
      unfold alloc_May.j1
      all_goals (repeat' first
      | (with_reducible exact ih0 _ _ _ _ _ _ _ _ _ _ _)
      | (with_reducible exact ih1 _ _ _ _ _ _ _ _)
      | (with_reducible exact ih2 _ _ _ _ _ _ _ _ _ _ _)
      | (with_reducible exact table_Of.mono _ _ _)
      | (with_reducible exact alloc_in.mono _ _ _ _ _ _)
      | (with_reducible exact table_Free.mono _ _ _ _ _)
      | (with_reducible exact conf_InPool.mono _ _ _ _ _ _)
      | (with_reducible exact alloc_fair.mono _ _ _ _ _ _ _)
      | (with_reducible exact conf_KeptFor.mono _ _ _ _ _ _)
      | (with_reducible exact conf_Keeper.mono _ _ _ _ _)
      | (with_reducible exact LeO.refl _)
      | (with_reducible exact LeO.none _)
      | (with_reducible refine LeO.ite ?_ ?_)
      | (with_reducible refine LeO.bind ?_ (fun _ => ?_)))
    · intro y0 y1 y2 y3 y4 y5 y6 y7 y8 y9 y10
      unfold alloc_May.l0
      all_goals (repeat' first
      | (with_reducible exact ih0 _ _ _ _ _ _ _ _ _ _ _)
      | (with_reducible exact ih1 _ _ _ _ _ _ _ _)
      | (with_reducible exact ih2 _ _ _ _ _ _ _ _ _ _ _)
      | (with_reducible exact table_Of.mono _ _ _)
      | (with_reducible exact alloc_in.mono _ _ _ _ _ _)
      | (with_reducible exact table_Free.mono _ _ _ _ _)
      | (with_reducible exact conf_InPool.mono _ _ _ _ _ _)
      | (with_reducible exact alloc_fair.mono _ _ _ _ _ _ _)
      | (with_reducible exact conf_KeptFor.mono _ _ _ _ _ _)
      | (with_reducible exact conf_Keeper.mono _ _ _ _ _)
      | (with_reducible exact LeO.refl _)
      | (with_reducible exact LeO.none _)
      | (with_reducible refine LeO.ite ?_ ?_)
      | (with_reducible refine LeO.bind ?_ (fun _ => ?_)))
theorem alloc_May.mono : ∀ a0 a1 a2 a3 a4 a5 a6 a7 k, LeO (alloc_May.f k a0 a1 a2 a3 a4 a5 a6 a7) (alloc_May.f (k + 1) a0 a1 a2 a3 a4 a5 a6 a7) := by
 intro a0 a1 a2 a3 a4 a5 a6 a7 k
 obtain ⟨ih0, ih1, ih2⟩ := alloc_May.mono_l k
 unfold alloc_May.f
 repeat' first
  | (with_reducible exact ih0 _ _ _ _ _ _ _ _ _ _ _)
  | (with_reducible exact ih1 _ _ _ _ _ _ _ _)
  | (with_reducible exact ih2 _ _ _ _ _ _ _ _ _ _ _)
  | (with_reducible exact table_Of.mono _ _ _)
  | (with_reducible exact alloc_in.mono _ _ _ _ _ _)
  | (with_reducible exact table_Free.mono _ _ _ _ _)
  | (with_reducible exact conf_InPool.mono _ _ _ _ _ _)
  | (with_reducible exact alloc_fair.mono _ _ _ _ _ _ _)
  | (with_reducible exact conf_KeptFor.mono _ _ _ _ _ _)
  | (with_reducible exact conf_Keeper.mono _ _ _ _ _)
  | (with_reducible exact LeO.refl _)
  | (with_reducible exact LeO.none _)
  | (with_reducible refine LeO.ite ?_ ?_)
  | (with_reducible refine LeO.bind ?_ (fun _ => ?_))
theorem alloc_Choose_1.mono : ∀ a0 a1 a2 a3 a4 a5 a6 a7 k, LeO (alloc_Choose_1.f k a0 a1 a2 a3 a4 a5 a6 a7) (alloc_Choose_1.f (k + 1) a0 a1 a2 a3 a4 a5 a6 a7) := by
 intro a0 a1 a2 a3 a4 a5 a6 a7 k
 unfold alloc_Choose_1.f
 repeat' first
  | (with_reducible exact alloc_May.mono _ _ _ _ _ _ _ _ _)
  | (with_reducible exact LeO.refl _)
  | (with_reducible exact LeO.none _)
  | (with_reducible refine LeO.ite ?_ ?_)
  | (with_reducible refine LeO.bind ?_ (fun _ => ?_))
set_option maxHeartbeats 8000000 in
theorem alloc_first.mono_l : ∀ k, (∀ y0 y1 y2 y3 y4 y5 y6 y7 y8, LeO (alloc_first.l0 k y0 y1 y2 y3 y4 y5 y6 y7 y8) (alloc_first.l0 (k + 1) y0 y1 y2 y3 y4 y5 y6 y7 y8))
  | 0 => fun _ _ _ _ _ _ _ _ _ r h => by simp [alloc_first.l0] at h
  | k + 1 => by
    have ih0 := alloc_first.mono_l k
    intro y0 y1 y2 y3 y4 y5 y6 y7 y8
    unfold alloc_first.l0
    all_goals (repeat' first
      | (with_reducible exact ih0 _ _ _ _ _ _ _ _ _)
      | (with_reducible exact alloc_Choose_1.mono _ _ _ _ _ _ _ _ _)
      | (with_reducible exact LeO.refl _)
      | (with_reducible exact LeO.none _)
      | (with_reducible refine LeO.ite ?_ ?_)
      | (with_reducible refine LeO.bind ?_ (fun _ => ?_)))
theorem alloc_first.mono : ∀ a0 a1 a2 a3 a4 a5 a6 a7 k, LeO (alloc_first.f k a0 a1 a2 a3 a4 a5 a6 a7) (alloc_first.f (k + 1) a0 a1 a2 a3 a4 a5 a6 a7) := by
 intro a0 a1 a2 a3 a4 a5 a6 a7 k
 have ih0 := alloc_first.mono_l k
 unfold alloc_first.f
 repeat' first
  | (with_reducible exact ih0 _ _ _ _ _ _ _ _ _)
  | (with_reducible exact alloc_Choose_1.mono _ _ _ _ _ _ _ _ _)
  | (with_reducible exact LeO.refl _)
  | (with_reducible exact LeO.none _)
  | (with_reducible refine LeO.ite ?_ ?_)
  | (with_reducible refine LeO.bind ?_ (fun _ => ?_))
set_option maxHeartbeats 8000000 in
theorem alloc_Choose.mono_l : ∀ k, (∀ y0 y1 y2 y3 y4 y5 y6 y7 y8 y9, LeO (alloc_Choose.j0 k y0 y1 y2 y3 y4 y5 y6 y7 y8 y9) (alloc_Choose.j0 (k + 1) y0 y1 y2 y3 y4 y5 y6 y7 y8 y9)) ∧ (∀ y0 y1 y2 y3 y4 y5 y6 y7 y8 y9 y10 y11, LeO (alloc_Choose.l0 k y0 y1 y2 y3 y4 y5 y6 y7 y8 y9 y10 y11) (alloc_Choose.l0 (k + 1) y0 y1 y2 y3 y4 y5 y6 y7 y8 y9 y10 y11)) ∧ (∀ y0 y1 y2 y3 y4 y5 y6 y7, LeO (alloc_Choose.l1 k y0 y1 y2 y3 y4 y5 y6 y7) (alloc_Choose.l1 (k + 1) y0 y1 y2 y3 y4 y5 y6 y7)) ∧ (∀ y0 y1 y2 y3 y4 y5 y6 y7 y8, LeO (alloc_Choose.l2 k y0 y1 y2 y3 y4 y5 y6 y7 y8) (alloc_Choose.l2 (k + 1) y0 y1 y2 y3 y4 y5 y6 y7 y8)) ∧ (∀ y0 y1 y2 y3 y4 y5 y6 y7 y8 y9, LeO (alloc_Choose.l3 k y0 y1 y2 y3 y4 y5 y6 y7 y8 y9) (alloc_Choose.l3 (k + 1) y0 y1 y2 y3 y4 y5 y6 y7 y8 y9))
  | 0 => ⟨fun _ _ _ _ _ _ _ _ _ _ r h => by simp [alloc_Choose.j0] at h, fun _ _ _ _ _ _ _ _ _ _ _ _ r h => by simp [alloc_Choose.l0] at h, fun _ _ _ _ _ _ _ _ r h => by simp [alloc_Choose.l1] at h, fun _ _ _ _ _ _ _ _ _ r h => by simp [alloc_Choose.l2] at h, fun _ _ _ _ _ _ _ _ _ _ r h => by simp [alloc_Choose.l3] at h⟩
  | k + 1 => by
    obtain ⟨ih0, ih1, ih2, ih3, ih4⟩ := alloc_Choose.mono_l k
    refine ⟨?_, ?_, ?_, ?_, ?_⟩
    · intro y0 y1 y2 y3 y4 y5 y6 y7 y8 y9
      unfold alloc_Choose.j0
      all_goals (repeat' first
      | (with_reducible exact ih0 _ _ _ _ _ _ _ _ _ _)
      | (with_reducible exact ih1 _ _ _ _ _ _ _ _ _ _ _ _)
      | (with_reducible exact ih2 _ _ _ _ _ _ _ _)
      | (with_reducible exact ih3 _ _ _ _ _ _ _ _ _)
      | (with_reducible exact ih4 _ _ _ _ _ _ _ _ _ _)
      | (with_reducible exact alloc_first.mono _ _ _ _ _ _ _ _ _)
      | (with_reducible exact alloc_in.mono _ _ _ _ _ _)
      | (with_reducible exact conf_KeptFor.mono _ _ _ _ _ _)
      | (with_reducible exact alloc_Choose_1.mono _ _ _ _ _ _ _ _ _)
      | (with_reducible exact alloc_fair.mono _ _ _ _ _ _ _)
      | (with_reducible exact table_Of.mono _ _ _)
      | (with_reducible exact LeO.refl _)
      | (with_reducible exact LeO.none _)
      | (with_reducible refine LeO.ite ?_ ?_)
      | (with_reducible refine LeO.bind ?_ (fun _ => ?_)))
    · intro y0 y1 y2 y3 y4 y5 y6 y7 y8 y9 y10 y11
      unfold alloc_Choose.l0
      all_goals (repeat' first
      | (with_reducible exact ih0 _ _ _ _ _ _ _ _ _ _)
      | (with_reducible exact ih1 _ _ _ _ _ _ _ _ _ _ _ _)
      | (with_reducible exact ih2 _ _ _ _ _ _ _ _)
      | (with_reducible exact ih3 _ _ _ _ _ _ _ _ _)
      | (with_reducible exact ih4 _ _ _ _ _ _ _ _ _ _)
      | (with_reducible exact alloc_first.mono _ _ _ _ _ _ _ _ _)
      | (with_reducible exact alloc_in.mono _ _ _ _ _ _)
      | (with_reducible exact conf_KeptFor.mono _ _ _ _ _ _)
      | (with_reducible exact alloc_Choose_1.mono _ _ _ _ _ _ _ _ _)
      | (with_reducible exact alloc_fair.mono _ _ _ _ _ _ _)
      | (with_reducible exact table_Of.mono _ _ _)
      | (with_reducible exact LeO.refl _)
      | (with_reducible exact LeO.none _)
      | (with_reducible refine LeO.ite ?_ ?_)
      | (with_reducible refine LeO.bind ?_ (fun _ => ?_)))
    · intro y0 y1 y2 y3 y4 y5 y6 y7
      unfold alloc_Choose.l1
      all_goals (repeat' first
      | (with_reducible exact ih0 _ _ _ _ _ _ _ _ _ _)
      | (with_reducible exact ih1 _ _ _ _ _ _ _ _ _ _ _ _)
      | (with_reducible exact ih2 _ _ _ _ _ _ _ _)
      | (with_reducible exact ih3 _ _ _ _ _ _ _ _ _)
      | (with_reducible exact ih4 _ _ _ _ _ _ _ _ _ _)
      | (with_reducible exact alloc_first.mono _ _ _ _ _ _ _ _ _)
      | (with_reducible exact alloc_in.mono _ _ _ _ _ _)
      | (with_reducible exact conf_KeptFor.mono _ _ _ _ _ _)
      | (with_reducible exact alloc_Choose_1.mono _ _ _ _ _ _ _ _ _)
      | (with_reducible exact alloc_fair.mono _ _ _ _ _ _ _)
      | (with_reducible exact table_Of.mono _ _ _)
      | (with_reducible exact LeO.refl _)
      | (with_reducible exact LeO.none _)
      | (with_reducible refine LeO.ite ?_ ?_)
      | (with_reducible refine LeO.bind ?_ (fun _ => ?_)))
    · intro y0 y1 y2 y3 y4 y5 y6 y7 y8
      unfold alloc_Choose.l2
      all_goals (repeat' first
      | (with_reducible exact ih0 _ _ _ _ _ _ _ _ _ _)
      | (with_reducible exact ih1 _ _ _ _ _ _ _ _ _ _ _ _)
      | (with_reducible exact ih2 _ _ _ _ _ _ _ _)
      | (with_reducible exact ih3 _ _ _ _ _ _ _ _ _)
      | (with_reducible exact ih4 _ _ _ _ _ _ _ _ _ _)
      | (with_reducible exact alloc_first.mono _ _ _ _ _ _ _ _ _)
      | (with_reducible exact alloc_in.mono _ _ _ _ _ _)
      | (with_reducible exact conf_KeptFor.mono _ _ _ _ _ _)
      | (with_reducible exact alloc_Choose_1.mono _ _ _ _ _ _ _ _ _)
      | (with_reducible exact alloc_fair.mono _ _ _ _ _ _ _)
      | (with_reducible exact table_Of.mono _ _ _)
      | (with_reducible exact LeO.refl _)
      | (with_reducible exact LeO.none _)
      | (with_reducible refine LeO.ite ?_ ?_)
      | (with_reducible refine LeO.bind ?_ (fun _ => ?_)))
    · intro y0 y1 y2 y3 y4 y5 y6 y7 y8 y9
      unfold alloc_Choose.l3
      all_goals (repeat' first
      | (with_reducible exact ih0 _ _ _ _ _ _ _ _ _ _)
      | (with_reducible exact ih1 _ _ _ _ _ _ _ _ _ _ _ _)
      | (with_reducible exact ih2 _ _ _ _ _ _ _ _)
      | (with_reducible exact ih3 _ _ _ _ _ _ _ _ _)
      | (with_reducible exact ih4 _ _ _ _ _ _ _ _ _ _)
      | (with_reducible exact alloc_first.mono _ _ _ _ _ _ _ _ _)
      | (with_reducible exact alloc_in.mono _ _ _ _ _ _)
      | (with_reducible exact conf_KeptFor.mono _ _ _ _ _ _)
      | (with_reducible exact alloc_Choose_1.mono _ _ _ _ _ _ _ _ _)
      | (with_reducible exact alloc_fair.mono _ _ _ _ _ _ _)
      | (with_reducible exact table_Of.mono _ _ _)
      | (with_reducible exact LeO.refl _)
      | (with_reducible exact LeO.none _)
      | (with_reducible refine LeO.ite ?_ ?_)
      | (with_reducible refine LeO.bind ?_ (fun _ => ?_)))
theorem alloc_Choose.mono : ∀ a0 a1 a2 a3 a4 a5 a6 a7 k, LeO (alloc_Choose.f k a0 a1 a2 a3 a4 a5 a6 a7) (alloc_Choose.f (k + 1) a0 a1 a2 a3 a4 a5 a6 a7) := by
 intro a0 a1 a2 a3 a4 a5 a6 a7 k
 obtain ⟨ih0, ih1, ih2, ih3, ih4⟩ := alloc_Choose.mono_l k
 unfold alloc_Choose.f
 repeat' first
  | (with_reducible exact ih0 _ _ _ _ _ _ _ _ _ _)
  | (with_reducible exact ih1 _ _ _ _ _ _ _ _ _ _ _ _)
  | (with_reducible exact ih2 _ _ _ _ _ _ _ _)
  | (with_reducible exact ih3 _ _ _ _ _ _ _ _ _)
  | (with_reducible exact ih4 _ _ _ _ _ _ _ _ _ _)
  | (with_reducible exact alloc_first.mono _ _ _ _ _ _ _ _ _)
  | (with_reducible exact alloc_in.mono _ _ _ _ _ _)
  | (with_reducible exact conf_KeptFor.mono _ _ _ _ _ _)
  | (with_reducible exact alloc_Choose_1.mono _ _ _ _ _ _ _ _ _)
  | (with_reducible exact alloc_fair.mono _ _ _ _ _ _ _)
  | (with_reducible exact table_Of.mono _ _ _)
  | (with_reducible exact LeO.refl _)
  | (with_reducible exact LeO.none _)
  | (with_reducible refine LeO.ite ?_ ?_)
  | (with_reducible refine LeO.bind ?_ (fun _ => ?_))
theorem boarderlaw15_knows.mono : ∀ k, LeO (boarderlaw15_knows.f k) (boarderlaw15_knows.f (k + 1)) := by
 intro k
 unfold boarderlaw15_knows.f
 repeat' first
  | (with_reducible exact alloc_Choose.mono _ _ _ _ _ _ _ _ _)
  | (with_reducible exact alloc_May.mono _ _ _ _ _ _ _ _ _)
  | (with_reducible exact LeO.refl _)
  | (with_reducible exact LeO.none _)
  | (with_reducible refine LeO.ite ?_ ?_)
  | (with_reducible refine LeO.bind ?_ (fun _ => ?_))
end Go.Proofs.Ytdcabfonjmeajaa.PAlloc
set_option linter.unusedVariables false
set_option linter.unusedSimpArgs false
namespace Go.Proofs.Ytdcabfonjmeajaa.Com
open Go.RowKit Go.Proofs.YtdcabfonjmeajaaW.PrintWords Go.Proofs.YtdcabfonjmeajaaW.PrintLast Go.Proofs.YtdcabfonjmeajaaW.PrintMore

theorem toNat_ofInt_nat (a : Nat) (ha : a < 9223372036854775808) : (BitVec.ofInt 64 (a : Int)).toNat = a := by
  rw [BitVec.ofInt_natCast, BitVec.toNat_ofNat]; exact Nat.mod_eq_of_lt (by omega)
theorem i64_and_nat (a b : Nat) (ha : a < 9223372036854775808) (hb : b < 9223372036854775808) : Go.bits .and .i64 (a : Int) (b : Int) = ((a &&& b : Nat) : Int) := by
  have hx : a &&& b < 2 ^ 63 := Nat.and_lt_two_pow _ (by omega)
  show IntKind.i64.wrap ((BitVec.ofInt 64 (a : Int) &&& BitVec.ofInt 64 (b : Int)).toNat : Int) = _
  rw [BitVec.toNat_and, toNat_ofInt_nat a ha, toNat_ofInt_nat b hb, IntKind.wrap_i64]
  omega
theorem i64_or_nat (a b : Nat) (ha : a < 9223372036854775808) (hb : b < 9223372036854775808) : Go.bits .or .i64 (a : Int) (b : Int) = ((a ||| b : Nat) : Int) := by
  have hx : a ||| b < 2 ^ 63 := Nat.or_lt_two_pow (by omega) (by omega)
  show IntKind.i64.wrap ((BitVec.ofInt 64 (a : Int) ||| BitVec.ofInt 64 (b : Int)).toNat : Int) = _
  rw [BitVec.toNat_or, toNat_ofInt_nat a ha, toNat_ofInt_nat b hb, IntKind.wrap_i64]
  omega
/-- 'or' of a multiple of 2^n and of a number below 2^n. -/
theorem i64_or_add (a p : Nat) (n : Nat) (hp : p < 2 ^ n) (h : a * 2 ^ n + p < 9223372036854775808) : Go.bits .or .i64 ((a * 2 ^ n : Nat) : Int) (p : Int) = ((a * 2 ^ n + p : Nat) : Int) := by
  rw [i64_or_nat _ _ (by omega) (by omega), Nat.mul_comm a, ← Nat.two_pow_add_eq_or_of_lt hp a]
end Go.Proofs.Ytdcabfonjmeajaa.Com
set_option linter.unusedVariables false
set_option linter.unusedSimpArgs false
namespace Go.Proofs.Ytdcabfonjmeajaa.Com
open Go.RowKit Go.Proofs.YtdcabfonjmeajaaW.PrintWords Go.Proofs.YtdcabfonjmeajaaW.PrintLast Go.Proofs.YtdcabfonjmeajaaW.PrintMore

/-! ### decimal digits -/
/-- A number's decimal digits, as bytes' numbers. -/
def decI (n : Nat) : List Int := if h : n < 10 then [(48 + n : Int)] else decI (n / 10) ++ [(48 + (n % 10 : Nat) : Int)]
termination_by n
decreasing_by omega
/-- Bytes of numbers. -/
def bys (l : List Int) : List UInt8 := l.map fun n => UInt8.ofNat n.toNat
/-! ### an address's text -/
def b3 (a : Nat) : Nat := a / 16777216 % 256
def b2 (a : Nat) : Nat := a / 65536 % 256
def b1 (a : Nat) : Nat := a / 256 % 256
def b0 (a : Nat) : Nat := a % 256
def textI (a : Nat) : List Int := decI (b3 a) ++ 46 :: (decI (b2 a) ++ 46 :: (decI (b1 a) ++ 46 :: decI (b0 a)))
def textB (a : Nat) : List UInt8 := bys (textI a)

/-! ### reading it -/
/-- What is left of a text, as its bytes; the address and the part so far, the part's digits, the points. -/
def addrGo : List UInt8 → Int → Int → Int → Int → Int × Int
  | [], a, p, m, q => if q = 3 ∧ 0 < m then (a * 256 + p, 0) else (0, 2)
  | c :: cs, a, p, m, q =>
    if (c.toNat : Int) = 46 ∧ 0 < m ∧ q < 3 then addrGo cs (a * 256 + p) 0 0 (q + 1)
    else if 48 ≤ (c.toNat : Int) ∧ (c.toNat : Int) ≤ 57 ∧ (m = 0 ∨ 0 < p) ∧ p * 10 + ((c.toNat : Int) - 48) ≤ 255 then addrGo cs a (p * 10 + ((c.toNat : Int) - 48)) (m + 1) q
    else (0, 2)
/-- The text of what was read so far: the points' parts, and the part that is begun. -/
def soFar (a p m q : Int) : List UInt8 :=
  (if q ≤ 0 then [] else if q ≤ 1 then bys (decI a.toNat ++ [46]) else if q ≤ 2 then bys (decI (a.toNat / 256) ++ 46 :: (decI (a.toNat % 256) ++ [46])) else bys (decI (a.toNat / 65536) ++ 46 :: (decI (a.toNat / 256 % 256) ++ 46 :: (decI (a.toNat % 256) ++ [46]))))
   ++ (if m ≤ 0 then [] else bys (decI p.toNat))
/-- What holds of the numbers. -/
def AInv (a p m q : Int) : Prop := 0 ≤ p ∧ p ≤ 255 ∧ 0 ≤ m ∧ (m ≤ 0 → p ≤ 0) ∧ 0 ≤ q ∧ q ≤ 3 ∧ 0 ≤ a ∧ (q ≤ 0 → a ≤ 0) ∧ (q ≤ 1 → a ≤ 255) ∧ (q ≤ 2 → a ≤ 65535) ∧ a ≤ 16777215
/-! ### prefixes -/
/-- How many addresses a prefix of so many bits has. -/
def sz (n : Int) : Nat := 2 ^ (32 - n.toNat)
theorem sz_pos (n : Int) : 0 < sz n := Nat.two_pow_pos _
theorem sz_le (n : Int) : sz n ≤ 4294967296 := by
  have : sz n ≤ 2 ^ 32 := Nat.pow_le_pow_right (by omega) (by omega)
  omega
theorem sz_all (n : Int) (h0 : 0 ≤ n) (h1 : n ≤ 32) : 4294967296 = sz n * 2 ^ n.toNat := by
  unfold sz
  rw [← Nat.pow_add, show 32 - n.toNat + n.toNat = 32 from by omega]
/-- A mask of the highest of 32 bits. -/
theorem mask_eq (j : Nat) (hj : j ≤ 32) : 4294967296 - 2 ^ j = (2 ^ (32 - j) - 1) * 2 ^ j := by
  rw [Nat.sub_mul, ← Nat.pow_add, show 32 - j + j = 32 from by omega, Nat.one_mul]
theorem mask_bit (j i : Nat) (hj : j ≤ 32) : (4294967296 - 2 ^ j).testBit i = (decide (j ≤ i) && decide (i < 32)) := by
  rw [mask_eq j hj, Nat.testBit_mul_two_pow, Nat.testBit_two_pow_sub_one]
  by_cases h : j ≤ i
  · by_cases h2 : i < 32
    · simp [h, h2, show i - j < 32 - j from by omega]
    · simp [h, h2, show ¬ i - j < 32 - j from by omega]
  · simp [h]
theorem high_bit (b i : Nat) (hb : b < 4294967296) (hi : 32 ≤ i) : b.testBit i = false :=
  Nat.testBit_lt_two_pow (Nat.lt_of_lt_of_le (show b < 2 ^ 32 from hb) (Nat.pow_le_pow_right (by omega) hi))
theorem and_mask (b j : Nat) (hb : b < 4294967296) (hj : j ≤ 32) : b &&& (4294967296 - 2 ^ j) = b / 2 ^ j * 2 ^ j := by
  apply Nat.eq_of_testBit_eq
  intro i
  rw [Nat.testBit_and, mask_bit j i hj, Nat.testBit_mul_two_pow, Nat.testBit_div_two_pow]
  by_cases h : j ≤ i
  · rw [show i - j + j = i from by omega]
    by_cases h2 : i < 32
    · simp [h, h2]
    · simp [h, h2, high_bit b i hb (by omega)]
  · simp [h]
theorem i64_andNot_mask (b j : Nat) (hb : b < 4294967296) (hj : j ≤ 32) : Go.bits .andNot .i64 (b : Int) ((4294967296 - 2 ^ j : Nat) : Int) = ((b % 2 ^ j : Nat) : Int) := by
  have hm : 4294967296 - 2 ^ j < 9223372036854775808 := Nat.lt_of_le_of_lt (Nat.sub_le _ _) (by omega)
  show IntKind.i64.wrap ((BitVec.ofInt 64 (b : Int) &&& ~~~ BitVec.ofInt 64 ((4294967296 - 2 ^ j : Nat) : Int)).toNat : Int) = _
  have key : (BitVec.ofInt 64 (b : Int) &&& ~~~ BitVec.ofInt 64 ((4294967296 - 2 ^ j : Nat) : Int)).toNat = b % 2 ^ j := by
    apply Nat.eq_of_testBit_eq
    intro i
    rw [BitVec.testBit_toNat, BitVec.getLsbD_and, BitVec.getLsbD_not, ← BitVec.testBit_toNat, ← BitVec.testBit_toNat, toNat_ofInt_nat b (by omega), toNat_ofInt_nat _ hm, mask_bit j i hj, Nat.testBit_mod_two_pow]
    by_cases h2 : i < 32
    · by_cases h : j ≤ i
      · simp [h, h2, show ¬ i < j from by omega]
      · simp [h, h2, show i < j from by omega, show i < 64 from by omega]
    · simp [high_bit b i hb (by omega)]
  rw [key, IntKind.wrap_i64]
  have : b % 2 ^ j ≤ b := Nat.mod_le _ _
  omega
/-- Is a prefix right? -/
def fairB (b n : Int) : Bool := decide (0 ≤ n ∧ n ≤ 32 ∧ 0 ≤ b ∧ b ≤ 4294967295 ∧ b % (sz n : Int) = 0)
theorem fairB_iff (b n : Int) : fairB b n = true ↔ 0 ≤ n ∧ n ≤ 32 ∧ 0 ≤ b ∧ b ≤ 4294967295 ∧ b % (sz n : Int) = 0 := by unfold fairB; exact decide_eq_true_iff
/-- Has it an address? -/
def hasB (b n a : Int) : Bool := fairB b n && decide (b ≤ a ∧ a < b + sz n)
/-- A prefix that is right ends within all addresses. -/
theorem fair_end (b n : Int) (h : fairB b n = true) : b + sz n ≤ 4294967296 := by
  obtain ⟨h0, h1, h2, h3, h4⟩ := (fairB_iff b n).1 h
  have e := sz_all n h0 h1
  have hp := sz_pos n
  obtain ⟨q, hq⟩ := Int.dvd_of_emod_eq_zero h4
  have hlt : q < ((2 ^ n.toNat : Nat) : Int) := by
    refine Int.lt_of_not_ge fun hge => ?_
    have : (sz n : Int) * ((2 ^ n.toNat : Nat) : Int) ≤ sz n * q := Int.mul_le_mul_of_nonneg_left hge (by omega)
    rw [← Int.natCast_mul, ← e] at this
    omega
  have : (sz n : Int) * (q + 1) ≤ sz n * ((2 ^ n.toNat : Nat) : Int) := Int.mul_le_mul_of_nonneg_left (by omega) (by omega)
  rw [← Int.natCast_mul, ← e, Int.mul_add, ← hq] at this
  omega
end Go.Proofs.Ytdcabfonjmeajaa.Com
set_option linter.unusedVariables false
set_option linter.unusedSimpArgs false
namespace Go.Proofs.Ytdcabfonjmeajaa.PAlloc
open Go.RowKit Go.Proofs.YtdcabfonjmeajaaW.PrintWords Go.Proofs.YtdcabfonjmeajaaW.PrintLast Go.Proofs.YtdcabfonjmeajaaW.PrintMore

abbrev Le := S47
abbrev leZ : Le := z47
/-- Is a key right? -/
def keyB (s : ByteArray) : Bool := decide (3 ≤ s.size) && (decide (bt s 0 = 105 ∧ s.size ≤ 256) || decide (bt s 0 = 104 ∧ s.size ≤ 18))
/-- Is a lease right? -/
def leaseB (l : Le) : Bool := decide (0 ≤ l.f0 ∧ l.f0 ≤ 4294967295 ∧ 1 ≤ l.f1 ∧ l.f1 ≤ 3 ∧ 0 ≤ l.f2 ∧ l.f2 ≤ 1125899906842624) && keyB l.f3
theorem leaseB_of {l : Le} (h : leaseB l = true) : 0 ≤ l.f0 ∧ l.f0 ≤ 4294967295 ∧ 1 ≤ l.f1 ∧ l.f1 ≤ 3 ∧ 0 ≤ l.f2 ∧ l.f2 ≤ 1125899906842624 ∧ keyB l.f3 = true := by
  unfold leaseB at h
  rw [Bool.and_eq_true, decide_eq_true_iff] at h
  obtain ⟨⟨a, b, c, d, e, f⟩, g⟩ := h
  exact ⟨a, b, c, d, e, f, g⟩
/-- The element of a place. -/
abbrev atL (t : List Le) (j : Nat) : Le := t.getD j leZ
theorem atL_mem {t : List Le} {j : Nat} (h : j < t.length) : atL t j ∈ t := by
  unfold atL
  rw [List.getD_eq_getElem?_getD, List.getElem?_eq_getElem h]
  exact List.getElem_mem h
theorem atL_get {t : List Le} {j : Nat} (h : j < t.length) : atL t j = t[j] := by
  unfold atL
  rw [List.getD_eq_getElem?_getD, List.getElem?_eq_getElem h]; rfl
theorem mem_atL {t : List Le} {l : Le} (h : l ∈ t) : ∃ j, j < t.length ∧ atL t j = l := by
  obtain ⟨j, hj, e⟩ := List.mem_iff_getElem.1 h
  exact ⟨j, hj, by rw [atL_get hj]; exact e⟩
/-- Strictly by addresses. -/
def Asc (t : List Le) : Prop := t.Pairwise (fun a b => a.f0 < b.f0)
instance (t : List Le) : Decidable (Asc t) := by unfold Asc; infer_instance
theorem asc_at {t : List Le} (h : Asc t) {i j : Nat} (hij : i < j) (hj : j < t.length) : (atL t i).f0 < (atL t j).f0 := by
  rw [atL_get (by omega), atL_get hj]
  exact List.pairwise_iff_getElem.1 h i j (by omega) hj hij
theorem asc_of_at {t : List Le} (h : ∀ j, j + 1 < t.length → (atL t j).f0 < (atL t (j + 1)).f0) : Asc t := by
  refine List.pairwise_iff_getElem.2 ?_
  have key : ∀ d i, i + d + 1 < t.length → (atL t i).f0 < (atL t (i + d + 1)).f0 := by
    intro d
    induction d with
    | zero => intro i hi; exact h i hi
    | succ d ih =>
      intro i hi
      have h1 := ih i (by omega)
      have h2 := h (i + d + 1) (by omega)
      exact Int.lt_trans h1 h2
  intro i j hi hj hij
  have := key (j - i - 1) i (by omega)
  rw [show i + (j - i - 1) + 1 = j from by omega, atL_get hi, atL_get hj] at this
  exact this
/-- Is it a table? -/
def Tab (t : List Le) : Prop := t.length ≤ 64 ∧ (∀ l ∈ t, leaseB l = true) ∧ Asc t
instance (t : List Le) : Decidable (Tab t) := by unfold Tab; infer_instance
/-- Few leases, of short keys. -/
def Small (t : List Le) : Prop := t.length ≤ 500 ∧ ∀ l ∈ t, l.f3.size ≤ maxLen
theorem tab_iff (t : List Le) : Tab t ↔ t.length ≤ 64 ∧ ∀ j, j < t.length → leaseB (atL t j) = true ∧ (0 < j → (atL t (j - 1)).f0 < (atL t j).f0) := by
  constructor
  · rintro ⟨h1, h2, h3⟩
    exact ⟨h1, fun j hj => ⟨h2 _ (atL_mem hj), fun h0 => asc_at h3 (by omega) hj⟩⟩
  · rintro ⟨h1, h2⟩
    refine ⟨h1, fun l hl => ?_, asc_of_at fun j hj => ?_⟩
    · obtain ⟨j, hj, rfl⟩ := mem_atL hl
      exact (h2 j hj).1
    · exact (h2 (j + 1) hj).2 (by omega)
theorem tab_iff2 (t : List Le) : Tab t ↔ t.length ≤ 64 ∧ ∀ j, j < t.length → leaseB (atL t j) = true ∧ (j + 1 < t.length → (atL t j).f0 < (atL t (j + 1)).f0) := by
  rw [tab_iff]
  constructor
  · rintro ⟨h1, h2⟩
    exact ⟨h1, fun j hj => ⟨(h2 j hj).1, fun h0 => (h2 (j + 1) h0).2 (by omega)⟩⟩
  · rintro ⟨h1, h2⟩
    refine ⟨h1, fun j hj => ⟨(h2 j hj).1, fun h0 => ?_⟩⟩
    have := (h2 (j - 1) (by omega)).2 (by omega)
    rw [show j - 1 + 1 = j from by omega] at this
    exact this
/-- A table, or the empty one. -/
def goodL (t : List Le) : List Le := if Tab t then t else []
theorem tab_nil : Tab ([] : List Le) := ⟨by simp, fun l h => by simp at h, List.Pairwise.nil⟩
theorem goodL_tab (t : List Le) : Tab (goodL t) := by
  unfold goodL
  by_cases h : Tab t
  · rw [if_pos h]; exact h
  · rw [if_neg h]; exact tab_nil
theorem goodL_of {t : List Le} (h : Tab t) : goodL t = t := if_pos h
/-- What is got. -/
def ans (o : Option Le) : Int × Int × Int × ByteArray × Bool := match o with | some l => (l.f0, l.f1, l.f2, l.f3, true) | none => (0, 0, 0, ⟨#[]⟩, false)
def getL (t : List Le) (a : Int) : Option Le := t.find? (fun l => decide (l.f0 = a))
theorem getL_some {t : List Le} (h : Asc t) {l : Le} (hl : l ∈ t) : getL t l.f0 = some l := by
  unfold getL
  obtain ⟨x, hx⟩ : ∃ x, t.find? (fun q => decide (q.f0 = l.f0)) = some x := Option.isSome_iff_exists.1 (List.find?_isSome.2 ⟨l, hl, by simp⟩)
  have h1 : x.f0 = l.f0 := by simpa using List.find?_some hx
  have h2 := List.mem_of_find?_eq_some hx
  rw [hx]
  obtain ⟨i, hi, rfl⟩ := mem_atL h2
  obtain ⟨j, hj, rfl⟩ := mem_atL hl
  rcases Nat.lt_trichotomy i j with c | c | c
  · have := asc_at h c hj; omega
  · subst c; rfl
  · have := asc_at h c hi; omega
theorem getL_none {t : List Le} {a : Int} (h : ∀ l ∈ t, l.f0 ≠ a) : getL t a = none := by
  unfold getL
  rw [List.find?_eq_none]
  intro l hl
  simpa using h l hl
theorem getL_mem {t : List Le} {a : Int} {l : Le} (h : getL t a = some l) : l ∈ t ∧ l.f0 = a := ⟨List.mem_of_find?_eq_some h, by simpa using List.find?_some h⟩
/-- A table with a lease. -/
def setL (t : List Le) (l : Le) : List Le := t.filter (fun x => decide (x.f0 < l.f0)) ++ l :: t.filter (fun x => decide (l.f0 < x.f0))
/-- What the document's setting does, from an element on. -/
def refSet (l : Le) : Bool → List Le → List Le
  | put, [] => if put = true then [] else [l]
  | put, x :: r => (if put = false ∧ l.f0 ≤ x.f0 then [l] else []) ++ ((if x.f0 = l.f0 then [] else [x]) ++ refSet l (put || decide (l.f0 ≤ x.f0)) r)
def holdsB (l : Le) (now : Int) : Bool := decide (l.f1 = 1 ∧ now < l.f2)
def restsB (l : Le) (now : Int) : Bool := decide (l.f1 = 3 ∧ now < l.f2)
/-- May a client have an address? -/
def freeB (t : List Le) (a : Int) (k : ByteArray) (now : Int) : Bool := match getL t a with | none => true | some l => !restsB l now && (!holdsB l now || decide (l.f3.toList = k.toList))
def sweepL (t : List Le) (now : Int) : List Le := t.filter (fun l => holdsB l now || restsB l now)
/-- A client's leases. -/
def ofL (t : List Le) (k : ByteArray) : List Le := t.filter (fun l => decide (l.f3.toList = k.toList))
end Go.Proofs.Ytdcabfonjmeajaa.PAlloc
set_option linter.unusedVariables false
set_option linter.unusedSimpArgs false
namespace Go.Proofs.Ytdcabfonjmeajaa.PAlloc
open Go.RowKit Go.Proofs.YtdcabfonjmeajaaW.PrintWords Go.Proofs.YtdcabfonjmeajaaW.PrintLast Go.Proofs.YtdcabfonjmeajaaW.PrintMore

/-! Loops that end at the first round that doesn't pass. -/
theorem loopE {β : Type} {L : Nat → Int → Option β} {n : Nat} (p : Nat → Prop) (v : Nat → β) {r : β}
    (hok : ∀ i, i < n → p i → ∀ r, Ev (fun k => L k ((i + 1 : Nat) : Int)) r → Ev (fun k => L k (i : Int)) r)
    (hbad : ∀ i, i < n → ¬ p i → Ev (fun k => L k (i : Int)) (v i))
    (hend : (∀ i, i < n → p i) → Ev (fun k => L k (n : Int)) r)
    (hr : ∀ i, i < n → (∀ j, j < i → p j) → ¬ p i → r = v i) : Ev (fun k => L k 0) r := by
  have H : ∀ d i, i + d = n → (∀ j, j < i → p j) → Ev (fun k => L k (i : Int)) r := by
    intro d
    induction d with
    | zero =>
      intro i hi hp
      obtain rfl : i = n := by omega
      exact hend hp
    | succ d ih =>
      intro i hi hp
      by_cases h : p i
      · refine hok i (by omega) h _ (ih (i + 1) (by omega) (fun j hj => ?_))
        rcases Nat.lt_succ_iff_lt_or_eq.1 hj with h1 | h1
        · exact hp j h1
        · subst h1; exact h
      · rw [hr i (by omega) hp h]
        exact hbad i (by omega) h
  exact H n 0 (by omega) (fun j hj => by omega)
/-- The same, where a round that doesn't pass always ends it alike. -/
theorem loopC {β : Type} {L : Nat → Int → Option β} {n : Nat} (p : Nat → Prop) (c : β) {r : β}
    (hok : ∀ i, i < n → p i → ∀ r, Ev (fun k => L k ((i + 1 : Nat) : Int)) r → Ev (fun k => L k (i : Int)) r)
    (hbad : ∀ i, i < n → ¬ p i → Ev (fun k => L k (i : Int)) c)
    (hend : (∀ i, i < n → p i) → Ev (fun k => L k (n : Int)) r)
    (hr : (∃ i, i < n ∧ ¬ p i) → r = c) : Ev (fun k => L k 0) r :=
  loopE p (fun _ => c) hok hbad hend (fun i hi _ h => hr ⟨i, hi, h⟩)
theorem wrap_next {i n : Nat} (h : i < n) (hn : n ≤ 140737488355328) : wrap64 ((i : Int) + 1) = ((i + 1 : Nat) : Int) := by unfold wrap64; omega
theorem Ev.eqv {α : Type} {g : Nat → Option α} {r s : α} (h : Ev g r) (e : r = s) : Ev g s := e ▸ h
theorem Ev.pos {α : Type} {c : Prop} [Decidable c] (h : c) {f g : Nat → Option α} {r : α} (e : Ev f r) : Ev (fun k => if c then f k else g k) r := Ev.congr (fun _ => if_pos h) e
theorem Ev.neg {α : Type} {c : Prop} [Decidable c] (h : ¬ c) {f g : Nat → Option α} {r : α} (e : Ev g r) : Ev (fun k => if c then f k else g k) r := Ev.congr (fun _ => if_neg h) e
theorem Ev.some' {α : Type} {r : α} : Ev (fun _ => some r) r := Ev.now r

abbrev Rg := S62
abbrev Rs := S59
abbrev Sb := S57
abbrev Nt := S41
abbrev Sp := S66
/-- What a law's reading and its guard tell of a configuration: no list and no key is great. -/
def Sm (nets : List Nt) : Prop := nets.length ≤ 10 ∧ ∀ n ∈ nets, n.f0.length ≤ 10 ∧ ∀ s ∈ n.f0, s.f2.length ≤ 20 ∧ s.f3.length ≤ 20 ∧ ∀ r ∈ s.f3, r.f0.size ≤ 1000
def SmS (s : Sb) : Prop := s.f2.length ≤ 20 ∧ s.f3.length ≤ 20 ∧ ∀ r ∈ s.f3, r.f0.size ≤ 1000
/-- Is a subnet's form right? -/
def FairS (s : Sb) : Prop := Com.fairB s.f0 s.f1 = true ∧ 8 ≤ s.f1 ∧ s.f1 ≤ 30 ∧ s.f2.length ≤ 4 ∧ s.f3.length ≤ 8 ∧ 0 ≤ s.f4 ∧ s.f4 ≤ 99 ∧ 1 ≤ s.f6 ∧ s.f6 ≤ 2147483648 ∧ (∀ i, (h : i < s.f2.length) → s.f2[i].f0 ≤ s.f2[i].f1) ∧ ∀ i, (h : i < s.f3.length) → keyB s.f3[i].f0 = true
theorem rd_get {α : Type} {xs : List α} {i : Nat} {d : α} (h : i < xs.length) : xs.getD ((i : Int)).toNat d = xs[i] := by
  rw [Int.toNat_natCast, List.getD_eq_getElem?_getD, List.getElem?_eq_getElem h]; rfl
/-- All subnets, and their places. -/
def subAt (n : Int) : Nat → List Sb → List Sp
  | _, [] => []
  | i, s :: r => ⟨n, (i : Int), s⟩ :: subAt n (i + 1) r
def spotsFrom : Nat → List Nt → List Sp
  | _, [] => []
  | n, x :: r => subAt (n : Int) 0 x.f0 ++ spotsFrom (n + 1) r
def spotsL (nets : List Nt) : List Sp := spotsFrom 0 nets
theorem subAt_len (n : Int) : ∀ (i : Nat) (l : List Sb), (subAt n i l).length = l.length
  | _, [] => rfl
  | i, s :: r => by rw [subAt, List.length_cons, subAt_len n (i + 1) r, List.length_cons]
theorem subAt_mem {n : Int} {x : Sp} : ∀ {i : Nat} {l : List Sb}, x ∈ subAt n i l → x.f0 = n ∧ x.f2 ∈ l
  | i, s :: r, h => by
    rw [subAt, List.mem_cons] at h
    rcases h with rfl | h
    · exact ⟨rfl, List.mem_cons_self⟩
    · exact ⟨(subAt_mem h).1, List.mem_cons_of_mem _ (subAt_mem h).2⟩
theorem subAt_of {n : Int} {s : Sb} : ∀ {i : Nat} {l : List Sb}, s ∈ l → ∃ x ∈ subAt n i l, x.f2 = s
  | i, t :: r, h => by
    rcases List.mem_cons.1 h with rfl | h
    · exact ⟨_, List.mem_cons_self, rfl⟩
    · obtain ⟨x, hx, e⟩ := subAt_of (i := i + 1) h
      exact ⟨x, List.mem_cons_of_mem _ hx, e⟩
theorem spots_mem {x : Sp} : ∀ {n : Nat} {nets : List Nt}, x ∈ spotsFrom n nets → ∃ y ∈ nets, x.f2 ∈ y.f0
  | n, y :: r, h => by
    rw [spotsFrom, List.mem_append] at h
    rcases h with h | h
    · exact ⟨y, List.mem_cons_self, (subAt_mem h).2⟩
    · obtain ⟨z, hz, hx⟩ := spots_mem h
      exact ⟨z, List.mem_cons_of_mem _ hz, hx⟩
theorem spots_of {y : Nt} {s : Sb} (hs : s ∈ y.f0) : ∀ {n : Nat} {nets : List Nt}, y ∈ nets → ∃ x ∈ spotsFrom n nets, x.f2 = s
  | n, z :: r, h => by
    rcases List.mem_cons.1 h with rfl | h
    · obtain ⟨x, hx, e⟩ := subAt_of (n := (n : Int)) (i := 0) hs
      exact ⟨x, by rw [spotsFrom]; exact List.mem_append_left _ hx, e⟩
    · obtain ⟨x, hx, e⟩ := spots_of hs (n := n + 1) h
      exact ⟨x, by rw [spotsFrom]; exact List.mem_append_right _ hx, e⟩
/-- What holds of all spots holds of all subnets, and the other way round. -/
theorem spots_all {F : Sb → Prop} {nets : List Nt} : (∀ x ∈ spotsL nets, F x.f2) ↔ ∀ n ∈ nets, ∀ s ∈ n.f0, F s :=
  ⟨fun h n hn s hs => by obtain ⟨x, hx, rfl⟩ := spots_of hs (n := 0) hn; exact h x hx, fun h x hx => by obtain ⟨y, hy, hx⟩ := spots_mem hx; exact h y hy _ hx⟩
theorem spots_len : ∀ {n : Nat} {nets : List Nt}, (∀ x ∈ nets, x.f0.length ≤ 10) → (spotsFrom n nets).length ≤ 10 * nets.length
  | n, [], _ => by simp [spotsFrom]
  | n, x :: r, h => by
    rw [spotsFrom, List.length_append, subAt_len, List.length_cons]
    have := spots_len (n := n + 1) (fun y hy => h y (List.mem_cons_of_mem _ hy))
    have := h x List.mem_cons_self
    omega
def FormP (a b : Int) (nets : List Nt) : Prop := 0 ≤ a ∧ a ≤ 4294967295 ∧ 1 ≤ b ∧ b ≤ 2147483648 ∧ nets.length ≤ 4 ∧ (∀ n ∈ nets, 1 ≤ n.f0.length ∧ n.f0.length ≤ 4) ∧ ∀ n ∈ nets, ∀ s ∈ n.f0, FairS s
/-- May a subnet lend an address? -/
def InS (s : Sb) (a : Int) : Prop := s.f0 < a ∧ a < s.f0 + (Com.sz s.f1 : Int) - 1
instance (s : Sb) (a : Int) : Decidable (InS s a) := by unfold InS; infer_instance
def PlaceS (srv : Int) (s : Sb) : Prop := (∀ i, (h : i < s.f2.length) → InS s s.f2[i].f0 ∧ InS s s.f2[i].f1 ∧ ¬ (s.f2[i].f0 ≤ srv ∧ srv ≤ s.f2[i].f1)) ∧ (∀ i, (h : i < s.f3.length) → InS s s.f3[i].f1 ∧ s.f3[i].f1 ≠ srv) ∧ (s.f5 ≠ 0 → Com.hasB s.f0 s.f1 s.f5 = true)
/-- Do two prefixes meet? -/
def meetC (b n c m : Int) : Bool := Com.fairB b n && (Com.fairB c m && (decide (b ≤ c ∧ c < b + Com.sz n) || decide (c ≤ b ∧ b < c + Com.sz m)))
theorem meetC_comm (b n c m : Int) : meetC b n c m = meetC c m b n := by
  unfold meetC
  cases Com.fairB b n <;> cases Com.fairB c m <;> simp [Bool.or_comm]
def DisjP (p q : Rg) : Prop := ¬ (p.f0 ≤ q.f0 ∧ q.f0 ≤ p.f1) ∧ ¬ (q.f0 ≤ p.f0 ∧ p.f0 ≤ q.f1)
def DifR (n n' : Int) (r q : Rs) : Prop := r.f1 ≠ q.f1 ∧ ¬ (n = n' ∧ r.f0.toList = q.f0.toList)
def FarS (x y : Sp) : Prop := meetC x.f2.f0 x.f2.f1 y.f2.f0 y.f2.f1 = false ∧ ¬ (x.f0 ≠ y.f0 ∧ x.f2.f4 = y.f2.f4 ∧ x.f2.f4 > 0)
theorem FarS.symm {x y : Sp} (h : FarS x y) : FarS y x := ⟨by rw [meetC_comm]; exact h.1, fun h2 => h.2 ⟨h2.1.symm, h2.2.1.symm, by rw [← h2.2.1]; exact h2.2.2⟩⟩
theorem DifR.symm {n n' : Int} {r q : Rs} (h : DifR n n' r q) : DifR n' n q r := ⟨h.1.symm, fun h2 => h.2 ⟨h2.1.symm, h2.2.symm⟩⟩
def OnceP (x y : Sp) (same : Bool) : Prop := (same = false → FarS x y) ∧ (same = true → ∀ i j, (hi : i < x.f2.f2.length) → (hj : j < y.f2.f2.length) → i ≠ j → DisjP x.f2.f2[i] y.f2.f2[j]) ∧
  ∀ i j, (hi : i < x.f2.f3.length) → (hj : j < y.f2.f3.length) → (same = true → i ≠ j) → DifR x.f0 y.f0 x.f2.f3[i] y.f2.f3[j]
def UnlikeP (l : List Sp) : Prop := ∀ i j, (hi : i < l.length) → (hj : j < l.length) → OnceP l[i] l[j] (decide (i = j))
def OverP (p q : Rg) : Prop := p.f0 ≤ q.f1 ∧ q.f0 ≤ p.f1
def PooledP (s : Sb) : Prop := ∃ i j, ∃ (hi : i < s.f2.length) (hj : j < i), OverP s.f2[i] s.f2[j]
/-- All reservations, each with its network. -/
def resL (l : List Sp) : List (Rs × Int) := l.flatMap (fun x => x.f2.f3.map (fun r => (r, x.f0)))
def DD (u v : Rs × Int) : Prop := DifR u.2 v.2 u.1 v.1
def FreeP (l : List Sp) : Prop := (∀ i, (hi : i < l.length) → ¬ PooledP l[i].f2 ∧ ∀ j, (hj : j < i) → FarS l[i] l[j]) ∧ ∀ a b, (ha : a < (resL l).length) → (hb : b < a) → DD (resL l)[a] (resL l)[b]
theorem pw_iff {α : Type} {D : α → α → Prop} {l : List α} : (∀ a b, (ha : a < l.length) → (hb : b < a) → D l[a] l[b]) ↔ l.Pairwise (fun u v => D v u) := by
  rw [List.pairwise_iff_getElem]
  exact ⟨fun h i j hi hj hij => h j i hj hij, fun h a b ha hb => h b a (by omega) ha hb⟩
theorem resL_pw (l : List Sp) : (resL l).Pairwise (fun u v => DD v u) ↔ (∀ x ∈ l, x.f2.f3.Pairwise (fun r q => DifR x.f0 x.f0 q r)) ∧ l.Pairwise (fun x y => ∀ r ∈ x.f2.f3, ∀ q ∈ y.f2.f3, DifR y.f0 x.f0 q r) := by
  unfold resL
  rw [List.pairwise_flatMap]
  constructor
  · rintro ⟨h1, h2⟩
    refine ⟨fun x hx => ?_, h2.imp (fun h r hr q hq => ?_)⟩
    · have := h1 x hx
      rw [List.pairwise_map] at this
      exact this
    · exact h (r, _) (List.mem_map.2 ⟨r, hr, rfl⟩) (q, _) (List.mem_map.2 ⟨q, hq, rfl⟩)
  · rintro ⟨h1, h2⟩
    refine ⟨fun x hx => ?_, h2.imp (fun h u hu v hv => ?_)⟩
    · rw [List.pairwise_map]
      exact h1 x hx
    · obtain ⟨r, hr, rfl⟩ := List.mem_map.1 hu
      obtain ⟨q, hq, rfl⟩ := List.mem_map.1 hv
      exact h r hr q hq
/-- Nothing is there twice, by each of two ways to say so. -/
theorem unlike_iff {l : List Sp} (hv : ∀ x ∈ l, ∀ i, (h : i < x.f2.f2.length) → x.f2.f2[i].f0 ≤ x.f2.f2[i].f1) : UnlikeP l ↔ FreeP l := by
  unfold FreeP
  rw [pw_iff (D := DD), resL_pw]
  constructor
  · intro h
    refine ⟨fun i hi => ⟨?_, fun j hj => ?_⟩, ?_, ?_⟩
    · rintro ⟨a, b, ha, hb, ho⟩
      have h1 := (h i i hi hi).2.1 (decide_eq_true rfl) a b ha (by omega) (by omega)
      unfold DisjP at h1
      unfold OverP at ho
      obtain ⟨h1, h2⟩ := h1
      rcases Int.le_total l[i].f2.f2[a].f0 l[i].f2.f2[b].f0 with c | c
      · exact h1 ⟨c, ho.2⟩
      · exact h2 ⟨c, ho.1⟩
    · exact (h i j hi (by omega)).1 (decide_eq_false (by omega))
    · intro x hx
      obtain ⟨i, hi, rfl⟩ := List.mem_iff_getElem.1 hx
      rw [List.pairwise_iff_getElem]
      intro a b ha hb hab
      exact (h i i hi hi).2.2 b a hb ha (fun _ => by omega)
    · rw [List.pairwise_iff_getElem]
      intro i j hi hj hij r hr q hq
      obtain ⟨a, ha, rfl⟩ := List.mem_iff_getElem.1 hr
      obtain ⟨b, hb, rfl⟩ := List.mem_iff_getElem.1 hq
      exact (h j i hj hi).2.2 b a hb ha (fun e => absurd (of_decide_eq_true e) (by omega))
  · rintro ⟨h1, h2, h3⟩ i j hi hj
    rw [List.pairwise_iff_getElem] at h3
    refine ⟨fun e => ?_, fun e a b ha hb hab => ?_, fun a b ha hb he => ?_⟩
    · have hne : i ≠ j := of_decide_eq_false e
      rcases Nat.lt_or_gt_of_ne hne with c | c
      · exact ((h1 j hj).2 i c).symm
      · exact (h1 i hi).2 j c
    · have hij : i = j := of_decide_eq_true e
      subst hij
      have hp := (h1 i hi).1
      have v1 := hv l[i] (List.getElem_mem hi) a ha
      have v2 := hv l[i] (List.getElem_mem hi) b hb
      have no : ¬ OverP l[i].f2.f2[a] l[i].f2.f2[b] := by
        intro ho
        rcases Nat.lt_or_gt_of_ne hab with c | c
        · exact hp ⟨b, a, hb, c, ho.2, ho.1⟩
        · exact hp ⟨a, b, ha, c, ho⟩
      exact ⟨fun h => no ⟨Int.le_trans h.1 v2, h.2⟩, fun h => no ⟨h.2, Int.le_trans h.1 v1⟩⟩
    · by_cases hij : i = j
      · subst hij
        have hab := he (decide_eq_true rfl)
        have h4 := h2 l[i] (List.getElem_mem hi)
        rw [List.pairwise_iff_getElem] at h4
        rcases Nat.lt_or_gt_of_ne hab with c | c
        · exact (h4 a b ha hb c).symm
        · exact h4 b a hb ha c
      · rcases Nat.lt_or_gt_of_ne hij with c | c
        · exact (h3 i j hi hj c _ (List.getElem_mem ha) _ (List.getElem_mem hb)).symm
        · exact h3 j i hj hi c _ (List.getElem_mem hb) _ (List.getElem_mem ha)
open Classical in
/-- What is wrong with a configuration. -/
noncomputable def checkI (a b : Int) (nets : List Nt) : Int := if FormP a b nets then (if ∀ n ∈ nets, ∀ s ∈ n.f0, PlaceS a s then (if UnlikeP (spotsL nets) then 0 else 8) else 9) else 1
theorem form_unlike {a b : Int} {nets : List Nt} (h : FormP a b nets) : UnlikeP (spotsL nets) ↔ FreeP (spotsL nets) :=
  unlike_iff (fun x hx i hi => ((spots_all (F := FairS)).2 h.2.2.2.2.2.2 x hx).2.2.2.2.2.2.2.2.2.1 i hi)
/-! Searches. -/
theorem loopF {α β : Type} (l : List α) (q : α → Option β) {L : Nat → Int → Option β} {r : β}
    (hs : ∀ i, (hi : i < l.length) → ∀ v, q l[i] = some v → Ev (fun k => L k (i : Int)) v)
    (hn : ∀ i, (hi : i < l.length) → q l[i] = none → ∀ r, Ev (fun k => L k ((i + 1 : Nat) : Int)) r → Ev (fun k => L k (i : Int)) r)
    (he : l.findSome? q = none → Ev (fun k => L k (l.length : Int)) r) (hr : ∀ v, l.findSome? q = some v → r = v) : Ev (fun k => L k 0) r := by
  have H : ∀ d i, i + d = l.length → (l.drop i).findSome? q = l.findSome? q → Ev (fun k => L k (i : Int)) r := by
    intro d
    induction d with
    | zero =>
      intro i hi hp
      obtain rfl : i = l.length := by omega
      rw [List.drop_length] at hp
      exact he hp.symm
    | succ d ih =>
      intro i hi hp
      have hl : i < l.length := by omega
      rw [List.drop_eq_getElem_cons hl, List.findSome?_cons] at hp
      cases c : q l[i] with
      | some v =>
        rw [c] at hp
        rw [hr v hp.symm]
        exact hs i hl v c
      | none =>
        rw [c] at hp
        exact hn i hl c _ (ih (i + 1) (by omega) hp)
  exact H l.length 0 (by omega) (by rw [List.drop_zero])
theorem getD_some {β : Type} {o : Option β} {d v : β} (h : o = some v) : o.getD d = v := by rw [h]; rfl
theorem getD_none {β : Type} {o : Option β} {d : β} (h : o = none) : o.getD d = d := by rw [h]; rfl
theorem nestF {β : Type} (nets : List Nt) (q : Sp → Option β) (d : β) {L0 : Nat → Int → Option β} {L1 : Nat → Int → Int → Option β}
    (h0 : ∀ m, m < nets.length → ∀ r, Ev (fun k => L1 k (m : Int) 0) r → Ev (fun k => L0 k (m : Int)) r) (h0e : Ev (fun k => L0 k (nets.length : Int)) d)
    (hs : ∀ m i, (hm : m < nets.length) → (hi : i < nets[m].f0.length) → ∀ v, q ⟨(m : Int), (i : Int), nets[m].f0[i]⟩ = some v → Ev (fun k => L1 k (m : Int) (i : Int)) v)
    (hn : ∀ m i, (hm : m < nets.length) → (hi : i < nets[m].f0.length) → q ⟨(m : Int), (i : Int), nets[m].f0[i]⟩ = none → ∀ r, Ev (fun k => L1 k (m : Int) ((i + 1 : Nat) : Int)) r → Ev (fun k => L1 k (m : Int) (i : Int)) r)
    (he : ∀ m, (hm : m < nets.length) → ∀ r, Ev (fun k => L0 k ((m + 1 : Nat) : Int)) r → Ev (fun k => L1 k (m : Int) (nets[m].f0.length : Int)) r) :
    Ev (fun k => L0 k 0) (((spotsL nets).findSome? q).getD d) := by
  have H : ∀ e m, m + e = nets.length → Ev (fun k => L0 k (m : Int)) (((spotsFrom m (nets.drop m)).findSome? q).getD d) := by
    intro e
    induction e with
    | zero =>
      intro m hm
      obtain rfl : m = nets.length := by omega
      rw [List.drop_length, spotsFrom]
      exact h0e
    | succ e ih =>
      intro m hm
      have hl : m < nets.length := by omega
      have hI := ih (m + 1) (by omega)
      rw [List.drop_eq_getElem_cons hl, spotsFrom]
      have H1 : ∀ f i, i + f = nets[m].f0.length → Ev (fun k => L1 k (m : Int) (i : Int)) (((subAt (m : Int) i (nets[m].f0.drop i) ++ spotsFrom (m + 1) (nets.drop (m + 1))).findSome? q).getD d) := by
        intro f
        induction f with
        | zero =>
          intro i hi
          obtain rfl : i = nets[m].f0.length := by omega
          rw [List.drop_length, subAt, List.nil_append]
          exact he m hl _ hI
        | succ f ihf =>
          intro i hi
          have hi2 : i < nets[m].f0.length := by omega
          rw [List.drop_eq_getElem_cons hi2, subAt, List.cons_append, List.findSome?_cons]
          cases c : q ⟨(m : Int), (i : Int), nets[m].f0[i]⟩ with
          | some v => exact hs m i hl hi2 v c
          | none => exact hn m i hl hi2 c _ (ihf (i + 1) (by omega))
      have h2 := H1 nets[m].f0.length 0 (by omega)
      rw [List.drop_zero] at h2
      exact h0 m hl _ h2
  have := H nets.length 0 (by omega)
  rwa [List.drop_zero] at this
theorem subAt_find {β : Type} (n c : Int) (g : Sb → Option β) : ∀ (i : Nat) (l : List Sb), (subAt n i l).findSome? (fun x => if x.f0 = c then g x.f2 else none) = if n = c then l.findSome? g else none
  | _, [] => by simp [subAt]
  | i, s :: r => by
    rw [subAt, List.findSome?_cons, subAt_find n c g (i + 1) r, List.findSome?_cons]
    by_cases h : n = c
    · simp only [if_pos h]
    · simp only [if_neg h]
theorem spots_find {β : Type} (c : Int) (g : Sb → Option β) : ∀ (nets : List Nt) (n : Nat), (spotsFrom n nets).findSome? (fun x => if x.f0 = c then g x.f2 else none) = if (n : Int) ≤ c ∧ c < (n : Int) + nets.length then ((nets.getD (c - n).toNat ⟨[]⟩).f0).findSome? g else none
  | [], n => by rw [if_neg (by rw [List.length_nil]; omega)]; rfl
  | x :: r, n => by
    rw [spotsFrom, List.findSome?_append, subAt_find, spots_find c g r (n + 1)]
    by_cases h : (n : Int) = c
    · subst h
      rw [if_pos rfl, if_neg (by omega), Option.or_none, if_pos ⟨Int.le_refl _, by rw [List.length_cons]; omega⟩, show ((n : Int) - n).toNat = 0 by omega]
      rfl
    · rw [if_neg h, Option.none_or]
      by_cases h2 : (n : Int) ≤ c ∧ c < (n : Int) + (x :: r).length
      · rw [if_pos h2, if_pos (by rw [List.length_cons] at h2; omega), show (c - n).toNat = (c - ((n + 1 : Nat) : Int)).toNat + 1 by omega]
        rfl
      · rw [if_neg h2, if_neg (by rw [List.length_cons] at h2; omega)]
/-- The subnets of a configuration that is right. -/
noncomputable def rightL (a b : Int) (nets : List Nt) : List Sp := if checkI a b nets = 0 then spotsL nets else []
theorem rightL_len {a b : Int} {nets : List Nt} (h : Sm nets) : (rightL a b nets).length ≤ 1000 := by
  unfold rightL
  by_cases c : checkI a b nets = 0
  · rw [if_pos c]
    have := spots_len (n := 0) (fun x hx => (h.2 x hx).1); have := h.1; unfold spotsL; omega
  · rw [if_neg c]; simp
theorem rightL_sm {a b : Int} {nets : List Nt} (h : Sm nets) : ∀ x ∈ rightL a b nets, SmS x.f2 := by
  unfold rightL
  by_cases c : checkI a b nets = 0
  · rw [if_pos c]; exact (spots_all (F := SmS)).2 (fun n hn s hs => (h.2 n hn).2 s hs)
  · rw [if_neg c]; intro x hx; simp at hx
def findQ (a : Int) (x : Sp) : Option (Int × Int × Bool) := if Com.hasB x.f2.f0 x.f2.f1 a = true then some (x.f0, x.f1, true) else none
def wireQ (i : Int) (x : Sp) : Option (Int × Int × Bool) := if x.f2.f4 = i ∧ i > 0 then some (x.f0, x.f1, true) else none
def keptG (k : ByteArray) (s : Sb) : Option (Int × Bool) := s.f3.findSome? (fun r => if r.f0.toList = k.toList then some (r.f1, true) else none)
def keepG (a : Int) (s : Sb) : Option (ByteArray × Bool) := s.f3.findSome? (fun r => if r.f1 = a then some (r.f0, true) else none)
def poolG (a : Int) (s : Sb) : Option Bool := s.f2.findSome? (fun p => if p.f0 ≤ a ∧ a ≤ p.f1 then some true else none)
noncomputable def findL (a b : Int) (nets : List Nt) (x : Int) : Int × Int × Bool := ((rightL a b nets).findSome? (findQ x)).getD (0, 0, false)
noncomputable def wireL (a b : Int) (nets : List Nt) (x : Int) : Int × Int × Bool := ((rightL a b nets).findSome? (wireQ x)).getD (0, 0, false)
noncomputable def keptL (a b : Int) (nets : List Nt) (n : Int) (k : ByteArray) : Int × Bool := ((rightL a b nets).findSome? (fun x => if x.f0 = n then keptG k x.f2 else none)).getD (0, false)
noncomputable def keepL (a b : Int) (nets : List Nt) (x : Int) : ByteArray × Bool := ((rightL a b nets).findSome? (fun y => keepG x y.f2)).getD (⟨#[]⟩, false)
noncomputable def poolL (a b : Int) (nets : List Nt) (n x : Int) : Bool := ((rightL a b nets).findSome? (fun y => if y.f0 = n then poolG x y.f2 else none)).getD false
end Go.Proofs.Ytdcabfonjmeajaa.PAlloc
