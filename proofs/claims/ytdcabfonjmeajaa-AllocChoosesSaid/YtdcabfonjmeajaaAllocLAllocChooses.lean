/- The given statement on the law AllocChooses: for every input that can be read as data the law of the given program returns true and leaves its arguments as they were; no condition beyond the statement's own. -/
import Derived.Below
import Derived.Carry
import Derived.ChangeOld
import Derived.OpenShut
import Derived.ProofKit
import Derived.ShutString
import Derived.SizedLaws
import Derived.Test.YtdcabfonjmeajaaRows
import Derived.WalkKit
import Derived.Test.YtdcabfonjmeajaaAllocZ8
set_option linter.unusedVariables false
set_option linter.unusedSimpArgs false
namespace Go.Proofs.Ytdcabfonjmeajaa.PAlloc
open Go.RowKit Go.Proofs.YtdcabfonjmeajaaW.PrintWords Go.Proofs.YtdcabfonjmeajaaW.PrintLast Go.Proofs.YtdcabfonjmeajaaW.PrintMore Go.Proofs.Ytdcabfonjmeajaa.Abs
/-! ### boarderref15_Choose: function 33 -/
mutual
def boarderref15_Choose.j0 : Nat → List (S47) → ByteArray → Int → Int → List (S41) → Int → Int → Int → Option (Int × Bool)
  | 0, _, _, _, _, _, _, _, _ => none
  | k + 1, p1, p3, p0_0, p0_1, p0_2, p2, p5, p4 => (boarderref15_Choose.l1 k p1 p3 p0_0 p0_1 p0_2 p2 p5 p4 0)
def boarderref15_Choose.l0 : Nat → List (S47) → ByteArray → Int → Int → Int → List (S41) → Int → Int → Bool → Int → Option (Int × Bool)
  | 0, _, _, _, _, _, _, _, _, _, _ => none
  | k + 1, p1, p3, p5, p0_0, p0_1, p0_2, p2, p4, v2, v3 => (if v3 < (p1.length : Int) then (if 0 ≤ v3 then (if (rd_T47 p1 v3).f3.toList = p3.toList then ((boarderref12_Holds.f ((rd_T47 p1 v3).f0) ((rd_T47 p1 v3).f1) ((rd_T47 p1 v3).f2) ((rd_T47 p1 v3).f3) p5).bind fun t14 => (if t14 = true then ((boarderref15_In.f k p0_0 p0_1 p0_2 p2 ((rd_T47 p1 v3).f0)).bind fun t15 => (if t15 = true then ((boarderref15_May.f k p0_0 p0_1 p0_2 p1 p2 p3 ((rd_T47 p1 v3).f0) p5).bind fun t16 => (if t16 = true then (some ((rd_T47 p1 v3).f0, true)) else (boarderref15_Choose.l0 k p1 p3 p5 p0_0 p0_1 p0_2 p2 p4 true (wrap64 (v3 + 1))))) else (boarderref15_Choose.l0 k p1 p3 p5 p0_0 p0_1 p0_2 p2 p4 v2 (wrap64 (v3 + 1))))) else (boarderref15_Choose.l0 k p1 p3 p5 p0_0 p0_1 p0_2 p2 p4 v2 (wrap64 (v3 + 1))))) else (boarderref15_Choose.l0 k p1 p3 p5 p0_0 p0_1 p0_2 p2 p4 v2 (wrap64 (v3 + 1)))) else none) else (if v2 = true then (some (0, false)) else ((boarderref13_KeptFor.f k p0_0 p0_1 p0_2 p2 p3).bind fun b4 => (if b4.2 = true then ((boarderref15_May.f k p0_0 p0_1 p0_2 p1 p2 p3 b4.1 p5).bind fun t5 => (if t5 = true then (some (b4.1, true)) else (boarderref15_Choose.j0 k p1 p3 p0_0 p0_1 p0_2 p2 p5 p4))) else (boarderref15_Choose.j0 k p1 p3 p0_0 p0_1 p0_2 p2 p5 p4)))))
def boarderref15_Choose.l1 : Nat → List (S47) → ByteArray → Int → Int → List (S41) → Int → Int → Int → Int → Option (Int × Bool)
  | 0, _, _, _, _, _, _, _, _, _ => none
  | k + 1, p1, p3, p0_0, p0_1, p0_2, p2, p5, p4, v6 => (if v6 < (p1.length : Int) then (if 0 ≤ v6 then (if (rd_T47 p1 v6).f3.toList = p3.toList then ((boarderref15_In.f k p0_0 p0_1 p0_2 p2 ((rd_T47 p1 v6).f0)).bind fun t12 => (if t12 = true then ((boarderref15_May.f k p0_0 p0_1 p0_2 p1 p2 p3 ((rd_T47 p1 v6).f0) p5).bind fun t13 => (if t13 = true then (some ((rd_T47 p1 v6).f0, true)) else (boarderref15_Choose.l1 k p1 p3 p0_0 p0_1 p0_2 p2 p5 p4 (wrap64 (v6 + 1))))) else (boarderref15_Choose.l1 k p1 p3 p0_0 p0_1 p0_2 p2 p5 p4 (wrap64 (v6 + 1))))) else (boarderref15_Choose.l1 k p1 p3 p0_0 p0_1 p0_2 p2 p5 p4 (wrap64 (v6 + 1)))) else none) else ((boarderref15_May.f k p0_0 p0_1 p0_2 p1 p2 p3 p4 p5).bind fun t7 => (if t7 = true then (some (p4, true)) else (if 0 ≤ p2 then (if p2 < (p0_2.length : Int) then (boarderref15_Choose.l2 k p0_2 p2 p0_0 p0_1 p1 p3 p5 0) else none) else none))))
def boarderref15_Choose.l2 : Nat → List (S41) → Int → Int → Int → List (S47) → ByteArray → Int → Int → Option (Int × Bool)
  | 0, _, _, _, _, _, _, _, _ => none
  | k + 1, p0_2, p2, p0_0, p0_1, p1, p3, p5, v8 => (if v8 < ((rd_T41 p0_2 p2).f0.length : Int) then (boarderref15_Choose.l3 k v8 p0_2 p2 p0_0 p0_1 p1 p3 p5 0) else (some (0, false)))
def boarderref15_Choose.l3 : Nat → Int → List (S41) → Int → Int → Int → List (S47) → ByteArray → Int → Int → Option (Int × Bool)
  | 0, _, _, _, _, _, _, _, _, _ => none
  | k + 1, v8, p0_2, p2, p0_0, p0_1, p1, p3, p5, v9 => (if 0 ≤ v8 then (if v8 < ((rd_T41 p0_2 p2).f0.length : Int) then (if v9 < ((rd_T57 (rd_T41 p0_2 p2).f0 v8).f2.length : Int) then (if 0 ≤ v9 then (boarderref15_Choose.l4 k v8 p0_2 p2 v9 p0_0 p0_1 p1 p3 p5 ((rd_T62 (rd_T57 (rd_T41 p0_2 p2).f0 v8).f2 v9).f0)) else none) else (boarderref15_Choose.l2 k p0_2 p2 p0_0 p0_1 p1 p3 p5 (wrap64 (v8 + 1)))) else none) else none)
def boarderref15_Choose.l4 : Nat → Int → List (S41) → Int → Int → Int → Int → List (S47) → ByteArray → Int → Int → Option (Int × Bool)
  | 0, _, _, _, _, _, _, _, _, _, _ => none
  | k + 1, v8, p0_2, p2, v9, p0_0, p0_1, p1, p3, p5, v10 => (if 0 ≤ v8 then (if v8 < ((rd_T41 p0_2 p2).f0.length : Int) then (if 0 ≤ v9 then (if v9 < ((rd_T57 (rd_T41 p0_2 p2).f0 v8).f2.length : Int) then (if v10 ≤ (rd_T62 (rd_T57 (rd_T41 p0_2 p2).f0 v8).f2 v9).f1 then ((boarderref15_May.f k p0_0 p0_1 p0_2 p1 p2 p3 v10 p5).bind fun t11 => (if t11 = true then (some (v10, true)) else (boarderref15_Choose.l4 k v8 p0_2 p2 v9 p0_0 p0_1 p1 p3 p5 (wrap64 (v10 + 1))))) else (boarderref15_Choose.l3 k v8 p0_2 p2 p0_0 p0_1 p1 p3 p5 (wrap64 (v9 + 1)))) else none) else none) else none) else none)
end
def boarderref15_Choose.f (k : Nat) (p0_0 : Int) (p0_1 : Int) (p0_2 : List (S41)) (p1 : List (S47)) (p2 : Int) (p3 : ByteArray) (p4 : Int) (p5 : Int) : Option (Int × Bool) := ((boarderref15_Fair.f k p0_0 p0_1 p0_2 p1 p2 p3).bind fun t1 => (if (!t1) = true then (some (0, false)) else (boarderref15_Choose.l0 k p1 p3 p5 p0_0 p0_1 p0_2 p2 p4 false 0)))
noncomputable def boarderref15_Choose.cx : Cx := ⟨Try.prog, tys, glo, 196, Try.f33, [.tmp 12, .tmp 13]⟩
def boarderref15_Choose.Sj0 (r0 : Int) (r1 : Bool) (k : Nat) : Prop := ∀ (p1 : List (S47)) (p3 : ByteArray) (p0_0 : Int) (p0_1 : Int) (p0_2 : List (S41)) (p2 : Int) (p5 : Int) (p4 : Int), boarderref15_Choose.j0 k p1 p3 p0_0 p0_1 p0_2 p2 p5 p4 = some (r0, r1) → Runs boarderref15_Choose.cx (Pur (.tup [.imm (.int .i64 r0), .imm (.bool r1)])) [.code (cP (bodyOf Try.f33) [1, 1, 1, 1, 1, 1, 1])] (overF none_ [(1, vS47 p1), (2, .imm (.int .i64 p2)), (3, .imm (.string p3)), (4, .imm (.int .i64 p4)), (5, .imm (.int .i64 p5)), (6, .ptr [.imm (.int .i64 p0_0), .imm (.int .i64 p0_1), vS41 p0_2])]) []
def boarderref15_Choose.Sl0 (r0 : Int) (r1 : Bool) (k : Nat) : Prop := ∀ (p1 : List (S47)) (p3 : ByteArray) (p5 : Int) (p0_0 : Int) (p0_1 : Int) (p0_2 : List (S41)) (p2 : Int) (p4 : Int) (v2 : Bool) (v3 : Int), boarderref15_Choose.l0 k p1 p3 p5 p0_0 p0_1 p0_2 p2 p4 v2 v3 = some (r0, r1) → Runs boarderref15_Choose.cx (Pur (.tup [.imm (.int .i64 r0), .imm (.bool r1)])) [.code (cP (bodyOf Try.f33) [1, 1, 1, 0, 1, 0, 0]), .inLoop (cP (bodyOf Try.f33) [1, 1, 1, 0, 1, 0, 0]), .inBlock 0, .code (cP (bodyOf Try.f33) [1, 1, 1, 1])] (overF none_ [(1, vS47 p1), (2, .imm (.int .i64 p2)), (3, .imm (.string p3)), (4, .imm (.int .i64 p4)), (5, .imm (.int .i64 p5)), (6, .ptr [.imm (.int .i64 p0_0), .imm (.int .i64 p0_1), vS41 p0_2]), (14, .imm (.bool v2)), (15, .imm (.int .i64 v3))]) []
def boarderref15_Choose.Sl1 (r0 : Int) (r1 : Bool) (k : Nat) : Prop := ∀ (p1 : List (S47)) (p3 : ByteArray) (p0_0 : Int) (p0_1 : Int) (p0_2 : List (S41)) (p2 : Int) (p5 : Int) (p4 : Int) (v6 : Int), boarderref15_Choose.l1 k p1 p3 p0_0 p0_1 p0_2 p2 p5 p4 v6 = some (r0, r1) → Runs boarderref15_Choose.cx (Pur (.tup [.imm (.int .i64 r0), .imm (.bool r1)])) [.code (cP (bodyOf Try.f33) [1, 1, 1, 1, 1, 1, 1, 0, 1, 0, 0]), .inLoop (cP (bodyOf Try.f33) [1, 1, 1, 1, 1, 1, 1, 0, 1, 0, 0]), .inBlock 2, .code (cP (bodyOf Try.f33) [1, 1, 1, 1, 1, 1, 1, 1])] (overF none_ [(1, vS47 p1), (2, .imm (.int .i64 p2)), (3, .imm (.string p3)), (4, .imm (.int .i64 p4)), (5, .imm (.int .i64 p5)), (6, .ptr [.imm (.int .i64 p0_0), .imm (.int .i64 p0_1), vS41 p0_2]), (18, .imm (.int .i64 v6))]) []
def boarderref15_Choose.Sl2 (r0 : Int) (r1 : Bool) (k : Nat) : Prop := ∀ (p0_2 : List (S41)) (p2 : Int) (p0_0 : Int) (p0_1 : Int) (p1 : List (S47)) (p3 : ByteArray) (p5 : Int) (v8 : Int), boarderref15_Choose.l2 k p0_2 p2 p0_0 p0_1 p1 p3 p5 v8 = some (r0, r1) → Runs boarderref15_Choose.cx (Pur (.tup [.imm (.int .i64 r0), .imm (.bool r1)])) [.code (cP (bodyOf Try.f33) [1, 1, 1, 1, 1, 1, 1, 1, 1, 1, 0, 1, 0, 0]), .inLoop (cP (bodyOf Try.f33) [1, 1, 1, 1, 1, 1, 1, 1, 1, 1, 0, 1, 0, 0]), .inBlock 4, .code (cP (bodyOf Try.f33) [1, 1, 1, 1, 1, 1, 1, 1, 1, 1, 1])] (overF none_ [(1, vS47 p1), (2, .imm (.int .i64 p2)), (3, .imm (.string p3)), (5, .imm (.int .i64 p5)), (6, .ptr [.imm (.int .i64 p0_0), .imm (.int .i64 p0_1), vS41 p0_2]), (19, vS57 ((rd_T41 p0_2 p2).f0)), (20, .imm (.int .i64 v8))]) []
def boarderref15_Choose.Sl3 (r0 : Int) (r1 : Bool) (k : Nat) : Prop := ∀ (v8 : Int) (p0_2 : List (S41)) (p2 : Int) (p0_0 : Int) (p0_1 : Int) (p1 : List (S47)) (p3 : ByteArray) (p5 : Int) (v9 : Int), boarderref15_Choose.l3 k v8 p0_2 p2 p0_0 p0_1 p1 p3 p5 v9 = some (r0, r1) → Runs boarderref15_Choose.cx (Pur (.tup [.imm (.int .i64 r0), .imm (.bool r1)])) [.code (cP (bodyOf Try.f33) [1, 1, 1, 1, 1, 1, 1, 1, 1, 1, 0, 1, 0, 0, 1, 0, 0, 1, 0, 0]), .inLoop (cP (bodyOf Try.f33) [1, 1, 1, 1, 1, 1, 1, 1, 1, 1, 0, 1, 0, 0, 1, 0, 0, 1, 0, 0]), .inBlock 6, .inBlock 5, .code (cP (bodyOf Try.f33) [1, 1, 1, 1, 1, 1, 1, 1, 1, 1, 0, 1, 0, 0, 1, 1]), .inLoop (cP (bodyOf Try.f33) [1, 1, 1, 1, 1, 1, 1, 1, 1, 1, 0, 1, 0, 0]), .inBlock 4, .code (cP (bodyOf Try.f33) [1, 1, 1, 1, 1, 1, 1, 1, 1, 1, 1])] (overF none_ [(1, vS47 p1), (2, .imm (.int .i64 p2)), (3, .imm (.string p3)), (5, .imm (.int .i64 p5)), (6, .ptr [.imm (.int .i64 p0_0), .imm (.int .i64 p0_1), vS41 p0_2]), (19, vS57 ((rd_T41 p0_2 p2).f0)), (20, .imm (.int .i64 v8)), (21, .imm (.int .i64 v9))]) []
def boarderref15_Choose.Sl4 (r0 : Int) (r1 : Bool) (k : Nat) : Prop := ∀ (v8 : Int) (p0_2 : List (S41)) (p2 : Int) (v9 : Int) (p0_0 : Int) (p0_1 : Int) (p1 : List (S47)) (p3 : ByteArray) (p5 : Int) (v10 : Int), boarderref15_Choose.l4 k v8 p0_2 p2 v9 p0_0 p0_1 p1 p3 p5 v10 = some (r0, r1) → Runs boarderref15_Choose.cx (Pur (.tup [.imm (.int .i64 r0), .imm (.bool r1)])) [.code (cP (bodyOf Try.f33) [1, 1, 1, 1, 1, 1, 1, 1, 1, 1, 0, 1, 0, 0, 1, 0, 0, 1, 0, 0, 1, 0, 0, 1, 0, 0]), .inLoop (cP (bodyOf Try.f33) [1, 1, 1, 1, 1, 1, 1, 1, 1, 1, 0, 1, 0, 0, 1, 0, 0, 1, 0, 0, 1, 0, 0, 1, 0, 0]), .inBlock 8, .inBlock 7, .code (cP (bodyOf Try.f33) [1, 1, 1, 1, 1, 1, 1, 1, 1, 1, 0, 1, 0, 0, 1, 0, 0, 1, 0, 0, 1, 1]), .inLoop (cP (bodyOf Try.f33) [1, 1, 1, 1, 1, 1, 1, 1, 1, 1, 0, 1, 0, 0, 1, 0, 0, 1, 0, 0]), .inBlock 6, .inBlock 5, .code (cP (bodyOf Try.f33) [1, 1, 1, 1, 1, 1, 1, 1, 1, 1, 0, 1, 0, 0, 1, 1]), .inLoop (cP (bodyOf Try.f33) [1, 1, 1, 1, 1, 1, 1, 1, 1, 1, 0, 1, 0, 0]), .inBlock 4, .code (cP (bodyOf Try.f33) [1, 1, 1, 1, 1, 1, 1, 1, 1, 1, 1])] (overF none_ [(1, vS47 p1), (2, .imm (.int .i64 p2)), (3, .imm (.string p3)), (5, .imm (.int .i64 p5)), (6, .ptr [.imm (.int .i64 p0_0), .imm (.int .i64 p0_1), vS41 p0_2]), (19, vS57 ((rd_T41 p0_2 p2).f0)), (20, .imm (.int .i64 v8)), (21, .imm (.int .i64 v9)), (22, .imm (.int .i64 v10))]) []
def boarderref15_Choose.Sf (r0 : Int) (r1 : Bool) (k : Nat) : Prop := ∀ (p0_0 : Int) (p0_1 : Int) (p0_2 : List (S41)) (p1 : List (S47)) (p2 : Int) (p3 : ByteArray) (p4 : Int) (p5 : Int), boarderref15_Choose.f k p0_0 p0_1 p0_2 p1 p2 p3 p4 p5 = some (r0, r1) → Runs boarderref15_Choose.cx (Pur (.tup [.imm (.int .i64 r0), .imm (.bool r1)])) [.code (bodyOf Try.f33)] (frame0 [.agg [.imm (.int .i64 p0_0), .imm (.int .i64 p0_1), vS41 p0_2], vS47 p1, .imm (.int .i64 p2), .imm (.string p3), .imm (.int .i64 p4), .imm (.int .i64 p5)]) []
set_option maxHeartbeats 64000000 in
set_option maxRecDepth 100000 in
theorem boarderref15_Choose.seg (r0 : Int) (r1 : Bool) : (∀ k, boarderref15_Choose.Sj0 r0 r1 k ∧ boarderref15_Choose.Sl0 r0 r1 k ∧ boarderref15_Choose.Sl1 r0 r1 k ∧ boarderref15_Choose.Sl2 r0 r1 k ∧ boarderref15_Choose.Sl3 r0 r1 k ∧ boarderref15_Choose.Sl4 r0 r1 k) ∧ ∀ k, (boarderref15_Choose.Sj0 r0 r1 k ∧ boarderref15_Choose.Sl0 r0 r1 k ∧ boarderref15_Choose.Sl1 r0 r1 k ∧ boarderref15_Choose.Sl2 r0 r1 k ∧ boarderref15_Choose.Sl3 r0 r1 k ∧ boarderref15_Choose.Sl4 r0 r1 k) → boarderref15_Choose.Sf r0 r1 k := by
  have hs : ∀ k, (boarderref15_Choose.Sj0 r0 r1 k ∧ boarderref15_Choose.Sl0 r0 r1 k ∧ boarderref15_Choose.Sl1 r0 r1 k ∧ boarderref15_Choose.Sl2 r0 r1 k ∧ boarderref15_Choose.Sl3 r0 r1 k ∧ boarderref15_Choose.Sl4 r0 r1 k) → (boarderref15_Choose.Sj0 r0 r1 (k + 1) ∧ boarderref15_Choose.Sl0 r0 r1 (k + 1) ∧ boarderref15_Choose.Sl1 r0 r1 (k + 1) ∧ boarderref15_Choose.Sl2 r0 r1 (k + 1) ∧ boarderref15_Choose.Sl3 r0 r1 (k + 1) ∧ boarderref15_Choose.Sl4 r0 r1 (k + 1)) ∧ boarderref15_Choose.Sf r0 r1 k := by
    intro k h
    obtain ⟨h_j0, h_l0, h_l1, h_l2, h_l3, h_l4⟩ := h
    refine ⟨⟨?_, ?_, ?_, ?_, ?_, ?_⟩, ?_⟩
    (intro p1 p3 p0_0 p0_1 p0_2 p2 p5 p4 H; rw [boarderref15_Choose.j0] at H; try dsimp only at H)
    rotate_left
    (intro p1 p3 p5 p0_0 p0_1 p0_2 p2 p4 v2 v3 H; rw [boarderref15_Choose.l0] at H; try dsimp only at H)
    rotate_left
    (intro p1 p3 p0_0 p0_1 p0_2 p2 p5 p4 v6 H; rw [boarderref15_Choose.l1] at H; try dsimp only at H)
    rotate_left
    (intro p0_2 p2 p0_0 p0_1 p1 p3 p5 v8 H; rw [boarderref15_Choose.l2] at H; try dsimp only at H)
    rotate_left
    (intro v8 p0_2 p2 p0_0 p0_1 p1 p3 p5 v9 H; rw [boarderref15_Choose.l3] at H; try dsimp only at H)
    rotate_left
    (intro v8 p0_2 p2 v9 p0_0 p0_1 p1 p3 p5 v10 H; rw [boarderref15_Choose.l4] at H; try dsimp only at H)
    rotate_left
    (intro p0_0 p0_1 p0_2 p1 p2 p3 p4 p5 H; unfold boarderref15_Choose.f at H; try dsimp only at H)
    rotate_left
    repeat' (first
      | ((with_reducible have hJ : boarderref15_Choose.j0 _ _ _ _ _ _ _ _ _ = some _ := H); clear hJ; (apply Runs.le [] (h_j0 _ _ _ _ _ _ _ _ H)))
      | ((with_reducible have hJ : boarderref15_Choose.l0 _ _ _ _ _ _ _ _ _ _ _ = some _ := H); clear hJ; (with_reducible apply Runs.loop); (apply Runs.le [] (h_l0 _ _ _ _ _ _ _ _ _ _ H)))
      | ((with_reducible have hJ : boarderref15_Choose.l0 _ _ _ _ _ _ _ _ _ _ _ = some _ := H); clear hJ; (with_reducible apply Runs.inLoop); (apply Runs.le [] (h_l0 _ _ _ _ _ _ _ _ _ _ H)))
      | ((with_reducible have hJ : boarderref15_Choose.l1 _ _ _ _ _ _ _ _ _ _ = some _ := H); clear hJ; (with_reducible apply Runs.loop); (apply Runs.le [] (h_l1 _ _ _ _ _ _ _ _ _ H)))
      | ((with_reducible have hJ : boarderref15_Choose.l1 _ _ _ _ _ _ _ _ _ _ = some _ := H); clear hJ; (with_reducible apply Runs.inLoop); (apply Runs.le [] (h_l1 _ _ _ _ _ _ _ _ _ H)))
      | ((with_reducible have hJ : boarderref15_Choose.l2 _ _ _ _ _ _ _ _ _ = some _ := H); clear hJ; (with_reducible apply Runs.loop); (apply Runs.le [] (h_l2 _ _ _ _ _ _ _ _ H)))
      | ((with_reducible have hJ : boarderref15_Choose.l2 _ _ _ _ _ _ _ _ _ = some _ := H); clear hJ; (with_reducible apply Runs.inLoop); (apply Runs.le [] (h_l2 _ _ _ _ _ _ _ _ H)))
      | ((with_reducible have hJ : boarderref15_Choose.l3 _ _ _ _ _ _ _ _ _ _ = some _ := H); clear hJ; (with_reducible apply Runs.loop); (apply Runs.le [] (h_l3 _ _ _ _ _ _ _ _ _ H)))
      | ((with_reducible have hJ : boarderref15_Choose.l3 _ _ _ _ _ _ _ _ _ _ = some _ := H); clear hJ; (with_reducible apply Runs.inLoop); (apply Runs.le [] (h_l3 _ _ _ _ _ _ _ _ _ H)))
      | ((with_reducible have hJ : boarderref15_Choose.l4 _ _ _ _ _ _ _ _ _ _ _ = some _ := H); clear hJ; (with_reducible apply Runs.loop); (apply Runs.le [] (h_l4 _ _ _ _ _ _ _ _ _ _ H)))
      | ((with_reducible have hJ : boarderref15_Choose.l4 _ _ _ _ _ _ _ _ _ _ _ = some _ := H); clear hJ; (with_reducible apply Runs.inLoop); (apply Runs.le [] (h_l4 _ _ _ _ _ _ _ _ _ _ H)))
      | ((with_reducible replace H := some_ite H); obtain ⟨_, H⟩ := H)
      | (with_reducible replace H := some_bind_ H)
      | (with_reducible replace H := true_ite H)
      | (with_reducible replace H := false_ite H)
      | ((with_reducible have hb := bool_ite H); clear H; rcases hb with ⟨e_, H⟩ | ⟨e_, H⟩ <;> subst e_)
      | ((with_reducible have hb := bool_iteN H); clear H; rcases hb with ⟨e_, H⟩ | ⟨e_, H⟩ <;> subst e_)
      | ((first | with_reducible apply ROps.pure | with_reducible apply DOps.pure); (case hop => rfl); (case hw => rfl); (case hdst => rfl); (case hd => rfl))
      | (first | with_reducible apply ROps.nil | with_reducible apply DOps.nil)
      | (with_reducible apply Runs.seq)
      | (with_reducible apply Runs.region tysOK)
      | ((with_reducible apply Runs.drawn tysOK mixed); (case hB => kernel_rfl))
      | (with_reducible apply Runs.block)
      | (with_reducible apply Runs.skip)
      | (with_reducible apply Runs.inBlock)
      | (with_reducible apply Runs.scope)
      | (with_reducible apply Runs.inScope)
      | (with_reducible apply Runs.label)
      | ((with_reducible apply Runs.condT); (case ho => rfl))
      | ((with_reducible apply Runs.condF); (case ho => rfl))
      | ((with_reducible apply Runs.exit); (case he => rfl))
      | ((first | with_reducible apply ROps.cmp | with_reducible apply DOps.cmp); (case hop => exact cmpX); (case hw => rfl); (case hdst => rfl); (case hd => rfl); (all_goals (intro h; first | (replace H := ite_pos_ h H) | (replace H := ite_neg_ h H) | (replace H := ite_pos_ (Decidable.not_not.1 h) H) | ((try simp only [rd_T41, rd_T47, rd_T57, rd_T62, rdOf] at h); (try simp only [rd_T41, rd_T47, rd_T57, rd_T62, rdOf] at H); (rw [if_pos h] at H)) | ((try simp only [rd_T41, rd_T47, rd_T57, rd_T62, rdOf] at h); (try simp only [rd_T41, rd_T47, rd_T57, rd_T62, rdOf] at H); (rw [if_neg h] at H)) | contradiction | skip)))
      | ((first | with_reducible apply ROps.val | with_reducible apply DOps.val); (case hop => exact valX); (case hw => rfl); (case hdst => rfl); (case hd => rfl))
      | ((first | with_reducible apply ROps.idx | with_reducible apply DOps.idx); (case hop => rfl); (case hx => rfl); (case hi => rfl); (case he => rfl); (case hw => rfl); (case hdst => rfl); (case hd => rfl); (case h0 => first | assumption | omega); (case h1 => first | assumption | omega))
      | ((with_reducible apply ROps.box); (case hop => rfl); (case hx => rfl); (case hrf => rfl); (all_goals try rfl))
      | ((first | with_reducible apply ROps.off | with_reducible apply DOps.off); (case hw => rfl); (case hdst => rfl); (case hd => rfl))
      | ((with_reducible have hB : (boarderref12_Holds.f _ _ _ _ _).bind _ = some _ := H); clear hB; (replace H := bind_some' H); (obtain ⟨t_, H1, H⟩ := H); (try dsimp only at H); (first | with_reducible apply ROps.call | with_reducible apply DOps.call); (case hop => rfl); (case hc => exact boarderref12_Holds.ok H1); (case ha => exact argsX); (case hw => rfl); (case hdst => rfl); (case hd => rfl))
      | ((with_reducible have hB : (boarderref13_KeptFor.f _ _ _ _ _ _).bind _ = some _ := H); clear hB; (replace H := bind_some' H); (obtain ⟨⟨t_0, t_1⟩, H1, H⟩ := H); (try dsimp only at H); (first | with_reducible apply ROps.call | with_reducible apply DOps.call); (case hop => rfl); (case hc => exact boarderref13_KeptFor.ok H1); (case ha => exact argsX); (case hw => rfl); (case hdst => rfl); (case hd => rfl))
      | ((with_reducible have hB : (boarderref15_Fair.f _ _ _ _ _ _ _).bind _ = some _ := H); clear hB; (replace H := bind_some' H); (obtain ⟨t_, H1, H⟩ := H); (try dsimp only at H); (first | with_reducible apply ROps.call | with_reducible apply DOps.call); (case hop => rfl); (case hc => exact boarderref15_Fair.ok H1); (case ha => exact argsX); (case hw => rfl); (case hdst => rfl); (case hd => rfl))
      | ((with_reducible have hB : (boarderref15_In.f _ _ _ _ _ _).bind _ = some _ := H); clear hB; (replace H := bind_some' H); (obtain ⟨t_, H1, H⟩ := H); (try dsimp only at H); (first | with_reducible apply ROps.call | with_reducible apply DOps.call); (case hop => rfl); (case hc => exact boarderref15_In.ok H1); (case ha => exact argsX); (case hw => rfl); (case hdst => rfl); (case hd => rfl))
      | ((with_reducible have hB : (boarderref15_May.f _ _ _ _ _ _ _ _ _).bind _ = some _ := H); clear hB; (replace H := bind_some' H); (obtain ⟨t_, H1, H⟩ := H); (try dsimp only at H); (first | with_reducible apply ROps.call | with_reducible apply DOps.call); (case hop => rfl); (case hc => exact boarderref15_May.ok H1); (case ha => exact argsX); (case hw => rfl); (case hdst => rfl); (case hd => rfl))
      | ((with_reducible apply Runs.retP tysOK); (case hrs => rfl); (case h => rfl); (case hr => (cases H; exact refX)); (case hx => rfl))
      | exact leRX
      | (refine Runs.code_eq (p' := .seq _ _) rfl ?_)
      | (refine Runs.code_eq (p' := .region _ _ _) rfl ?_)
      | (refine Runs.code_eq (p' := .cond _ _ _) rfl ?_)
      | (refine Runs.code_eq (p' := .block _ _) rfl ?_)
      | (refine Runs.code_eq (p' := .loop _) rfl ?_)
      | (refine Runs.code_eq (p' := .exit _) rfl ?_)
      | (refine Runs.code_eq (p' := .ret) rfl ?_)
      | (refine Runs.code_eq (p' := .skip) rfl ?_)
      | (refine Runs.code_eq (p' := .label _) rfl ?_)
      | (refine Runs.code_eq (p' := .scope _) rfl ?_))
  refine ⟨fun k => ?_, fun k h => (hs k h).2⟩
  induction k with
  | zero => exact ⟨(by intro _ _ _ _ _ _ _ _ H; rw [boarderref15_Choose.j0] at H; cases H), (by intro _ _ _ _ _ _ _ _ _ _ H; rw [boarderref15_Choose.l0] at H; cases H), (by intro _ _ _ _ _ _ _ _ _ H; rw [boarderref15_Choose.l1] at H; cases H), (by intro _ _ _ _ _ _ _ _ H; rw [boarderref15_Choose.l2] at H; cases H), (by intro _ _ _ _ _ _ _ _ _ H; rw [boarderref15_Choose.l3] at H; cases H), (by intro _ _ _ _ _ _ _ _ _ _ H; rw [boarderref15_Choose.l4] at H; cases H)⟩
  | succ k ih => exact (hs k ih).1
theorem boarderref15_Choose.ok {k : Nat} {p0_0 : Int} {p0_1 : Int} {p0_2 : List (S41)} {p1 : List (S47)} {p2 : Int} {p3 : ByteArray} {p4 : Int} {p5 : Int} {r0 : Int} {r1 : Bool} (H : boarderref15_Choose.f k p0_0 p0_1 p0_2 p1 p2 p3 p4 p5 = some (r0, r1)) : CallOK Try.prog glo 33 [.agg [.imm (.int .i64 p0_0), .imm (.int .i64 p0_1), vS41 p0_2], vS47 p1, .imm (.int .i64 p2), .imm (.string p3), .imm (.int .i64 p4), .imm (.int .i64 p5)] (.tup [.imm (.int .i64 r0), .imm (.bool r1)]) :=
  CallOK.of (c := boarderref15_Choose.cx) (p := bodyOf Try.f33) Try.func33 rfl rfl rfl (Nat.le_of_ble_eq_true rfl) ((boarderref15_Choose.seg r0 r1).2 k ((boarderref15_Choose.seg r0 r1).1 k) p0_0 p0_1 p0_2 p1 p2 p3 p4 p5 H)
end Go.Proofs.Ytdcabfonjmeajaa.PAlloc
set_option linter.unusedVariables false
set_option linter.unusedSimpArgs false
namespace Go.Proofs.Ytdcabfonjmeajaa.PAlloc
open Go.RowKit Go.Proofs.YtdcabfonjmeajaaW.PrintWords Go.Proofs.YtdcabfonjmeajaaW.PrintLast Go.Proofs.YtdcabfonjmeajaaW.PrintMore Go.Proofs.Ytdcabfonjmeajaa.Abs
/-! ### boarderlaw15_AllocChooses: function 9 -/
def boarderlaw15_AllocChooses.f (k : Nat) (p0_0 : Int) (p0_1 : Int) (p0_2 : List (S41)) (p1 : List (S47)) (p2 : Int) (p3 : ByteArray) (p4 : Int) (p5 : Int) : Option (Bool) := ((boarderlaw15_Great.f k p0_0 p0_1 p0_2 p1 p3).bind fun t1 => (if t1 = true then ((boarderlaw15_knows.f k).bind fun t2 => (some t2)) else ((alloc_Choose.f k p0_0 p0_1 p0_2 p1 p2 p3 p4 p5).bind fun b3 => ((boarderref15_Choose.f k p0_0 p0_1 p0_2 p1 p2 p3 p4 p5).bind fun b4 => (if b3.1 = b4.1 then (if b3.2 = true then (if b4.2 = true then ((boarderlaw15_knows.f k).bind fun t5 => (some t5)) else (some false)) else (if b4.2 = true then (some false) else ((boarderlaw15_knows.f k).bind fun t6 => (some t6)))) else (some false))))))
noncomputable def boarderlaw15_AllocChooses.cx : Cx := ⟨Try.prog, tys, glo, 53, Try.f9, [.tmp 12]⟩
def boarderlaw15_AllocChooses.Sf (r0 : Bool) (k : Nat) : Prop := ∀ (p0_0 : Int) (p0_1 : Int) (p0_2 : List (S41)) (p1 : List (S47)) (p2 : Int) (p3 : ByteArray) (p4 : Int) (p5 : Int), boarderlaw15_AllocChooses.f k p0_0 p0_1 p0_2 p1 p2 p3 p4 p5 = some r0 → Runs boarderlaw15_AllocChooses.cx (Pur (.imm (.bool r0))) [.code (bodyOf Try.f9)] (frame0 [.agg [.imm (.int .i64 p0_0), .imm (.int .i64 p0_1), vS41 p0_2], vS47 p1, .imm (.int .i64 p2), .imm (.string p3), .imm (.int .i64 p4), .imm (.int .i64 p5)]) []
set_option maxHeartbeats 64000000 in
set_option maxRecDepth 100000 in
theorem boarderlaw15_AllocChooses.seg (r0 : Bool) (k : Nat) : boarderlaw15_AllocChooses.Sf r0 k := by
  intro p0_0 p0_1 p0_2 p1 p2 p3 p4 p5 H
  unfold boarderlaw15_AllocChooses.f at H
  try dsimp only at H
  repeat' (first
    | ((with_reducible replace H := some_ite H); obtain ⟨_, H⟩ := H)
    | (with_reducible replace H := some_bind_ H)
    | (with_reducible replace H := true_ite H)
    | (with_reducible replace H := false_ite H)
    | ((with_reducible have hb := bool_ite H); clear H; rcases hb with ⟨e_, H⟩ | ⟨e_, H⟩ <;> subst e_)
    | ((with_reducible apply ROps.pure); (case hop => rfl); (case hw => rfl); (case hdst => rfl); (case hd => rfl))
    | (with_reducible apply ROps.nil)
    | (with_reducible apply Runs.seq)
    | (with_reducible apply Runs.region tysOK)
    | (with_reducible apply Runs.skip)
    | (with_reducible apply Runs.scope)
    | (with_reducible apply Runs.inScope)
    | (with_reducible apply Runs.label)
    | ((with_reducible apply Runs.condT); (case ho => rfl))
    | ((with_reducible apply Runs.condF); (case ho => rfl))
    | ((with_reducible apply ROps.cmp); (case hop => exact cmpX); (case hw => rfl); (case hdst => rfl); (case hd => rfl); (all_goals (intro h; first | (replace H := ite_pos_ h H) | (replace H := ite_neg_ h H) | (replace H := ite_pos_ (Decidable.not_not.1 h) H) | ((try simp only [rdOf] at h); (try simp only [rdOf] at H); (rw [if_pos h] at H)) | ((try simp only [rdOf] at h); (try simp only [rdOf] at H); (rw [if_neg h] at H)) | contradiction | skip)))
    | ((with_reducible apply ROps.val); (case hop => exact valX); (case hw => rfl); (case hdst => rfl); (case hd => rfl))
    | ((with_reducible apply ROps.box); (case hop => rfl); (case hx => rfl); (case hrf => rfl); (all_goals try rfl))
    | ((with_reducible apply ROps.off); (case hw => rfl); (case hdst => rfl); (case hd => rfl))
    | ((with_reducible have hB : (alloc_Choose.f _ _ _ _ _ _ _ _ _).bind _ = some _ := H); clear hB; (replace H := bind_some' H); (obtain ⟨⟨t_0, t_1⟩, H1, H⟩ := H); (try dsimp only at H); (with_reducible apply ROps.call); (case hop => rfl); (case hc => exact alloc_Choose.ok H1); (case ha => exact argsX); (case hw => rfl); (case hdst => rfl); (case hd => rfl))
    | ((with_reducible have hB : (boarderlaw15_Great.f _ _ _ _ _ _).bind _ = some _ := H); clear hB; (replace H := bind_some' H); (obtain ⟨t_, H1, H⟩ := H); (try dsimp only at H); (with_reducible apply ROps.call); (case hop => rfl); (case hc => exact boarderlaw15_Great.ok H1); (case ha => exact argsX); (case hw => rfl); (case hdst => rfl); (case hd => rfl))
    | ((with_reducible have hB : (boarderlaw15_knows.f _).bind _ = some _ := H); clear hB; (replace H := bind_some' H); (obtain ⟨t_, H1, H⟩ := H); (try dsimp only at H); (with_reducible apply ROps.call); (case hop => rfl); (case hc => exact boarderlaw15_knows.ok H1); (case ha => exact argsX); (case hw => rfl); (case hdst => rfl); (case hd => rfl))
    | ((with_reducible have hB : (boarderref15_Choose.f _ _ _ _ _ _ _ _ _).bind _ = some _ := H); clear hB; (replace H := bind_some' H); (obtain ⟨⟨t_0, t_1⟩, H1, H⟩ := H); (try dsimp only at H); (with_reducible apply ROps.call); (case hop => rfl); (case hc => exact boarderref15_Choose.ok H1); (case ha => exact argsX); (case hw => rfl); (case hdst => rfl); (case hd => rfl))
    | ((with_reducible apply Runs.retP tysOK); (case hrs => rfl); (case h => rfl); (case hr => (cases H; exact refX)); (case hx => rfl))
    | exact leRX
    | (refine Runs.code_eq (p' := .seq _ _) rfl ?_)
    | (refine Runs.code_eq (p' := .region _ _ _) rfl ?_)
    | (refine Runs.code_eq (p' := .cond _ _ _) rfl ?_)
    | (refine Runs.code_eq (p' := .block _ _) rfl ?_)
    | (refine Runs.code_eq (p' := .loop _) rfl ?_)
    | (refine Runs.code_eq (p' := .exit _) rfl ?_)
    | (refine Runs.code_eq (p' := .ret) rfl ?_)
    | (refine Runs.code_eq (p' := .skip) rfl ?_)
    | (refine Runs.code_eq (p' := .label _) rfl ?_)
    | (refine Runs.code_eq (p' := .scope _) rfl ?_))
theorem boarderlaw15_AllocChooses.ok {k : Nat} {p0_0 : Int} {p0_1 : Int} {p0_2 : List (S41)} {p1 : List (S47)} {p2 : Int} {p3 : ByteArray} {p4 : Int} {p5 : Int} {r0 : Bool} (H : boarderlaw15_AllocChooses.f k p0_0 p0_1 p0_2 p1 p2 p3 p4 p5 = some r0) : CallOK Try.prog glo 9 [.agg [.imm (.int .i64 p0_0), .imm (.int .i64 p0_1), vS41 p0_2], vS47 p1, .imm (.int .i64 p2), .imm (.string p3), .imm (.int .i64 p4), .imm (.int .i64 p5)] (.imm (.bool r0)) :=
  CallOK.of (c := boarderlaw15_AllocChooses.cx) (p := bodyOf Try.f9) Try.func9 rfl rfl rfl (Nat.le_of_ble_eq_true rfl) (boarderlaw15_AllocChooses.seg r0 k p0_0 p0_1 p0_2 p1 p2 p3 p4 p5 H)
end Go.Proofs.Ytdcabfonjmeajaa.PAlloc
set_option linter.unusedVariables false
set_option linter.unusedSimpArgs false
namespace Go.Proofs.Ytdcabfonjmeajaa.PAlloc
open Go.RowKit Go.Proofs.YtdcabfonjmeajaaW.PrintWords Go.Proofs.YtdcabfonjmeajaaW.PrintLast Go.Proofs.YtdcabfonjmeajaaW.PrintMore Go.Proofs.Ytdcabfonjmeajaa.Abs
/-- What is to be shown of boarderlaw15_AllocChooses, with no program in sight. -/
def boarderlaw15_AllocChooses.Pure : Prop := ∀ (p0_0 : Int) (p0_1 : Int) (p0_2 : List (S41)) (p1 : List (S47)) (p2 : Int) (p3 : ByteArray) (p4 : Int) (p5 : Int), ok24 (⟨p0_0, p0_1, p0_2⟩ : S24) → (fun xs : List (S47) => xs.length ≤ maxLen ∧ ∀ x ∈ xs, ok47 x) p1 → (Lit.int .i64 p2).wf = true → p3.size ≤ 140737488351232 → (Lit.int .i64 p4).wf = true → (Lit.int .i64 p5).wf = true → ∃ k, boarderlaw15_AllocChooses.f k p0_0 p0_1 p0_2 p1 p2 p3 p4 p5 = some true
theorem boarderlaw15_AllocChooses.walk (P : boarderlaw15_AllocChooses.Pure) (p0_0 : Int) (p0_1 : Int) (p0_2 : List (S41)) (p1 : List (S47)) (p2 : Int) (p3 : ByteArray) (p4 : Int) (p5 : Int) (w : World) (ok_0 : ok24 (⟨p0_0, p0_1, p0_2⟩ : S24)) (ok_1 : (fun xs : List (S47) => xs.length ≤ maxLen ∧ ∀ x ∈ xs, ok47 x) p1) (w2 : (Lit.int .i64 p2).wf = true) (w3 : p3.size ≤ 140737488351232) (w4 : (Lit.int .i64 p4).wf = true) (w5 : (Lit.int .i64 p5).wf = true) (cs0 : Array Value) (hr0 : RepL w (eS24 (⟨p0_0, p0_1, p0_2⟩ : S24)) cs0.toList) (A1 : Option Addr) (c1 : Nat) (hr1 : RepL w [vS47 p1] [.slice A1 p1.length c1]) :
    Calls Try.prog 9 #[.agg cs0, .slice A1 p1.length c1, .int .i64 p2, .string p3, .int .i64 p4, .int .i64 p5] w fun e w' => e = .returned (.bool true) ∧ Below w.heap.size w w' := by
  obtain ⟨k, h⟩ := P p0_0 p0_1 p0_2 p1 p2 p3 p4 p5 ok_0 ok_1 w2 w3 w4 w5
  exact (boarderlaw15_AllocChooses.ok h).law (vs := [.agg cs0, .slice A1 p1.length c1, .int .i64 p2, .string p3, .int .i64 p4, .int .i64 p5]) (fun _ => .any _) rfl (reps_cons (arg_agg hr0) (reps_cons (arg_one hr1) (reps_cons (.imm _) (reps_cons (.imm _) (reps_cons (.imm _) (reps_cons (.imm _) reps_nil))))))
end Go.Proofs.Ytdcabfonjmeajaa.PAlloc
set_option linter.unusedVariables false
set_option linter.unusedSimpArgs false
namespace Go.Proofs.Ytdcabfonjmeajaa.PAlloc
open Go.RowKit Go.Proofs.YtdcabfonjmeajaaW.PrintWords Go.Proofs.YtdcabfonjmeajaaW.PrintLast Go.Proofs.YtdcabfonjmeajaaW.PrintMore

/-! ### boarderref15.Choose -/
section
variable {a b : Int} {nets : List Nt} (h : Sm nets) {t : List Le} (ht : Small t) {n : Int} {key : ByteArray} (now : Int) (hf : fairA a b nets t n key = true)
include h ht hf
theorem boarderref15_Choose_l3 (i : Nat) (hi : i < (subsA nets n).length) {r : Int × Bool} (h1 : Ev (fun k => boarderref15_Choose.l2 k nets n a b t key now ((i + 1 : Nat) : Int)) r) :
    Ev (fun k => boarderref15_Choose.l3 k (i : Int) nets n a b t key now 0) (((subsA nets n)[i]).f2.foldr (fun p r => seekA (fun x => mayA a b nets t n key x now) (rangeL p.f0 p.f1) r) r) := by
  have eS : rd_T57 (rd_T41 nets n).f0 (i : Int) = (subsA nets n)[i] := rd_get hi
  have eN : (rd_T41 nets n).f0 = subsA nets n := rfl
  have hc := (fairA_iff.1 hf).1
  have hS := (subsA_sm h n).2 _ (List.getElem_mem hi)
  have h10 := (subsA_sm h n).1
  refine loopR ((subsA nets n)[i]).f2 _ (L := fun k j => boarderref15_Choose.l3 k (i : Int) nets n a b t key now j) (fun j hj r h3 => ?_) ?_
  · have eP : rd_T62 ((subsA nets n)[i]).f2 (j : Int) = ((subsA nets n)[i]).f2[j] := rd_get hj
    have hb := pool_bounds hc (List.getElem_mem hi) (List.getElem_mem hj)
    refine Ev.step (fun k => by show boarderref15_Choose.l3 (k + 1) _ _ _ _ _ _ _ _ _ = _; rw [boarderref15_Choose.l3, eS, eN, if_pos (by omega), if_pos (by omega), if_pos (by omega), if_pos (by omega), eP]) ?_
    refine range_loop (L := fun k x => boarderref15_Choose.l4 k (i : Int) nets n (j : Int) a b t key now x) _ (fun x hx hx2 r h4 => ?_) (fun x hx => ?_)
    · refine Ev.step (fun k => by show boarderref15_Choose.l4 (k + 1) _ _ _ _ _ _ _ _ _ _ = _; rw [boarderref15_Choose.l4, eS, eN, eP, if_pos (by omega), if_pos (by omega), if_pos (by omega), if_pos (by omega), if_pos (by omega), show wrap64 (x + 1) = x + 1 by unfold wrap64; omega]) ?_
      exact Ev.bind (boarderref15_May_s a b nets h t ht n key _ now) (Ev.ite' (fun c => Ev.ret (by simp [c])) (fun c => by simpa [c] using h4))
    · refine Ev.step (fun k => by show boarderref15_Choose.l4 (k + 1) _ _ _ _ _ _ _ _ _ _ = _; rw [boarderref15_Choose.l4, eS, eN, eP, if_pos (by omega), if_pos (by omega), if_pos (by omega), if_pos (by omega), if_neg (by omega), wrap_next hj (by have := hS.1; omega)]) h3
  · refine Ev.step (fun k => by show boarderref15_Choose.l3 (k + 1) _ _ _ _ _ _ _ _ _ = _; rw [boarderref15_Choose.l3, eS, eN, if_pos (by omega), if_pos (by omega), if_neg (by omega), wrap_next hi (by omega)]) h1
theorem boarderref15_Choose_l2 : Ev (fun k => boarderref15_Choose.l2 k nets n a b t key now 0) (seekA (fun x => mayA a b nets t n key x now) (poolsA nets n) (0, false)) := by
  have e : seekA (fun x => mayA a b nets t n key x now) (poolsA nets n) (0, false) = (subsA nets n).foldr (fun s r => s.f2.foldr (fun p r => seekA (fun x => mayA a b nets t n key x now) (rangeL p.f0 p.f1) r) r) (0, false) := by
    unfold poolsA
    rw [← seekA_flat]
    congr 1
    funext s r
    rw [← seekA_flat]
  rw [e]
  have eN : (rd_T41 nets n).f0 = subsA nets n := rfl
  refine loopR (subsA nets n) _ (L := fun k i => boarderref15_Choose.l2 k nets n a b t key now i) (fun i hi r h3 => ?_) ?_
  · refine Ev.step (fun k => by show boarderref15_Choose.l2 (k + 1) _ _ _ _ _ _ _ _ = _; rw [boarderref15_Choose.l2, eN, if_pos (by omega)]) (boarderref15_Choose_l3 h ht now hf i hi h3)
  · exact Ev.step (fun k => by show boarderref15_Choose.l2 (k + 1) _ _ _ _ _ _ _ _ = _; rw [boarderref15_Choose.l2, eN, if_neg (by omega)]) Ev.some'
theorem boarderref15_Choose_l1 (want : Int) : Ev (fun k => boarderref15_Choose.l1 k t key a b nets n now want 0) (seekA (fun x => mayA a b nets t n key x now) ((t.filter (fun l => decide (l.f3.toList = key.toList) && inA a b nets n l.f0)).map (·.f0) ++ (want :: poolsA nets n)) (0, false)) := by
  have hn := (fairA_iff.1 hf).2.2.2
  have hl : t.length ≤ 500 := ht.1
  rw [seekA_append, ← seekF]
  refine loopR t _ (L := fun k i => boarderref15_Choose.l1 k t key a b nets n now want i) (fun i hi r h3 => ?_) ?_
  · have eT : rd_T47 t (i : Int) = t[i] := rd_get hi
    refine Ev.step (fun k => by show boarderref15_Choose.l1 (k + 1) _ _ _ _ _ _ _ _ _ = _; rw [boarderref15_Choose.l1, if_pos (by omega), if_pos (by omega), eT, wrap_next hi (by omega)]) ?_
    refine Ev.ite' (fun c1 => ?_) (fun c1 => by simpa [c1] using h3)
    refine Ev.bind (boarderref15_In_s a b nets h n _) (Ev.ite' (fun c2 => ?_) (fun c2 => by simpa [c1, c2] using h3))
    exact Ev.bind (boarderref15_May_s a b nets h t ht n key _ now) (Ev.ite' (fun c3 => Ev.ret (by simp [c1, c2, c3])) (fun c3 => by simpa [c1, c2, c3] using h3))
  · refine Ev.step (fun k => by show boarderref15_Choose.l1 (k + 1) _ _ _ _ _ _ _ _ _ = _; rw [boarderref15_Choose.l1, if_neg (by omega)]) ?_
    rw [seekA_cons]
    exact Ev.bind (boarderref15_May_s a b nets h t ht n key _ now) (Ev.ite' (fun c3 => Ev.ret (by simp [c3])) (fun c3 => by rw [if_neg c3]; exact Ev.pos hn.1 (Ev.pos hn.2 (boarderref15_Choose_l2 h ht now hf))))
theorem boarderref15_Choose_l0 (want : Int) : Ev (fun k => boarderref15_Choose.l0 k t key now a b nets n want false 0) (seekA (fun x => mayA a b nets t n key x now) (tryA a b nets t n key want now) (0, false)) := by
  have hl : t.length ≤ 500 := ht.1
  have hE : heldA a b nets t n key now = (t.filter (fun l => decide (l.f3.toList = key.toList) && (holdsB l now && inA a b nets n l.f0))).map (·.f0) := by
    unfold heldA ofL
    rw [List.filter_filter]
    congr 2
    funext l
    rw [Bool.and_comm, Bool.and_comm (inA a b nets n l.f0)]
  have key1 := loopRS (σ := Bool) t (fun l (r : Bool → Int × Bool) s => if (decide (l.f3.toList = key.toList) && (holdsB l now && inA a b nets n l.f0)) = true then (if mayA a b nets t n key l.f0 now = true then (l.f0, true) else r true) else r s)
    (L := fun k i s => boarderref15_Choose.l0 k t key now a b nets n want s i) (r0 := fun s => if s = true then (0, false) else seekA (fun x => mayA a b nets t n key x now) (keptA a b nets n key ++ ((t.filter (fun l => decide (l.f3.toList = key.toList) && inA a b nets n l.f0)).map (·.f0) ++ (want :: poolsA nets n))) (0, false)) ?_ ?_ false
  · rw [heldR (fun x => mayA a b nets t n key x now)] at key1
    refine Ev.eqv key1 ?_
    unfold tryA
    rw [hE]
    by_cases c : t.filter (fun l => decide (l.f3.toList = key.toList) && (holdsB l now && inA a b nets n l.f0)) = []
    · rw [c]
      simp only [List.map_nil, if_true, seekA_nil]
      rw [if_neg (by simp)]
      congr 3
      unfold oldA ofL
      rw [List.filter_filter]
      congr 1
      refine List.filter_congr fun x hx => ?_
      have hx2 := List.filter_eq_nil_iff.1 c x hx
      by_cases c1 : x.f3.toList = key.toList <;> by_cases c2 : inA a b nets n x.f0 = true <;> by_cases c3 : holdsB x now = true <;> simp_all
    · rw [if_pos (Or.inr c), if_neg (fun e => c (List.map_eq_nil_iff.1 e))]
  · intro i hi r h3 s
    have eT : rd_T47 t (i : Int) = t[i] := rd_get hi
    refine Ev.step (fun k => by show boarderref15_Choose.l0 (k + 1) _ _ _ _ _ _ _ _ _ _ = _; rw [boarderref15_Choose.l0, if_pos (by omega), if_pos (by omega), eT, wrap_next hi (by omega)]) ?_
    refine Ev.ite' (fun c1 => ?_) (fun c1 => by simpa [c1] using h3 s)
    refine Ev.bind (Ev.congr (fun _ => boarderref12_Holds_s t[i] now) (Ev.now _)) (Ev.ite' (fun c2 => ?_) (fun c2 => by simpa [c1, c2] using h3 s))
    refine Ev.bind (boarderref15_In_s a b nets h n _) (Ev.ite' (fun c3 => ?_) (fun c3 => by simpa [c1, c2, c3] using h3 s))
    exact Ev.bind (boarderref15_May_s a b nets h t ht n key _ now) (Ev.ite' (fun c4 => Ev.ret (by simp [c1, c2, c3, c4])) (fun c4 => by simpa [c1, c2, c3, c4] using h3 true))
  · intro s
    refine Ev.step (fun k => by show boarderref15_Choose.l0 (k + 1) _ _ _ _ _ _ _ _ _ _ = _; rw [boarderref15_Choose.l0, if_neg (by omega)]) ?_
    refine Ev.ite' (fun c1 => Ev.ret (by simp [c1])) (fun c1 => ?_)
    rw [if_neg c1]
    have hj : Ev (fun k => boarderref15_Choose.j0 k t key a b nets n now want) (seekA (fun x => mayA a b nets t n key x now) ((t.filter (fun l => decide (l.f3.toList = key.toList) && inA a b nets n l.f0)).map (·.f0) ++ (want :: poolsA nets n)) (0, false)) :=
      Ev.step (fun k => by rw [boarderref15_Choose.j0]) (boarderref15_Choose_l1 h ht now hf want)
    refine Ev.bind (boarderref13_KeptFor_s a b nets h n key) (Ev.ite' (fun c2 => ?_) (fun c2 => ?_))
    · rw [show keptA a b nets n key = [(keptL a b nets n key).1] from if_pos c2, List.singleton_append, seekA_cons]
      exact Ev.bind (boarderref15_May_s a b nets h t ht n key _ now) (Ev.ite' (fun c3 => Ev.ret (by simp [c3])) (fun c3 => by rw [if_neg c3]; exact hj))
    · rw [show keptA a b nets n key = [] from if_neg c2]
      exact hj
end
theorem boarderref15_Choose_s (a b : Int) (nets : List Nt) (h : Sm nets) (t : List Le) (ht : Small t) (n : Int) (key : ByteArray) (want now : Int) : Ev (fun k => boarderref15_Choose.f k a b nets t n key want now) (ansA (chooseA a b nets t n key want now)) := by
  refine Ev.bind (boarderref15_Fair_s a b nets h t ht n key) (Ev.ite' (fun c => Ev.ret ?_) (fun c => ?_))
  · unfold chooseA; rw [if_neg (by simpa using c)]; rfl
  · have c : fairA a b nets t n key = true := by simpa using c
    rw [choose_seek c]
    exact boarderref15_Choose_l0 h ht now c want

end Go.Proofs.Ytdcabfonjmeajaa.PAlloc
set_option linter.unusedVariables false
set_option linter.unusedSimpArgs false
namespace Go.Proofs.Ytdcabfonjmeajaa.Pure
open Go.RowKit Go.Proofs.YtdcabfonjmeajaaW.PrintWords Go.Proofs.YtdcabfonjmeajaaW.PrintLast Go.Proofs.YtdcabfonjmeajaaW.PrintMore Go.Proofs.Ytdcabfonjmeajaa.PAlloc

theorem AllocChooses : boarderlaw15_AllocChooses.Pure := by
  intro a b nets t n key x now _ ht _ _ _ _
  refine Ev.rounds (great15 ht.1 fun h hs hk => ?_)
  have hk2 : key.size ≤ maxLen := Nat.le_trans hk (by decide)
  exact Ev.bind (alloc_Choose_s a b nets h t hs n key hk2 x now) (Ev.bind (boarderref15_Choose_s a b nets h t hs n key x now) (Ev.pos rfl (Ev.ite' (fun c => Ev.ite' (fun c2 => knows15) (fun c2 => absurd c c2)) (fun c => Ev.ite' (fun c2 => absurd c2 c) (fun _ => knows15)))))

end Go.Proofs.Ytdcabfonjmeajaa.Pure
namespace Go.Proofs.Ytdcabfonjmeajaa.allocChooses
open Go.Proofs.Ytdcabfonjmeajaa.PAlloc Go.Proofs.Ytdcabfonjmeajaa.Abs Go.ChangeShapes Go.WideShapes Go.ChangeAt Go.RowKit
open Go.ChangeMaps (open_string shut_string)
open Go.Proofs.YtdcabfonjmeajaaW.PrintWords
set_option linter.unusedVariables false
set_option linter.unusedSimpArgs false
theorem own : ownKnob Try.prog.godebug = none := by kernel_rfl
theorem laidOut : laidOutB Try.prog = true := by kernel_rfl
set_option maxRecDepth 100000 in
theorem lifted (os : Os) (started : os.Started) (H : Type) (enc : TypeId × Value → H) :
    ReturnsInHanded {} Try.checked os 9 .any (Rows.allocChoosesSpec.pre6 enc Try.prog Try.f9 Rows.allocChoosesRow.domain false) (Rows.allocChoosesSpec.post enc Try.prog Try.f9 false true false false) := by
  refine returnsInHanded_of_change_sized (C := Try.checked) own started (by kernel_rfl) Try.func9
    (ChangeSpec.witness6 (enc := enc) (C := Try.checked) false ⟨#[], #[.agg #[.int .i64 0, .int .i64 0, .slice none 0 0], .slice none 0 0, .int .i64 0, .string ByteArray.empty, .int .i64 0, .int .i64 0], []⟩ 8 (by kernel_rfl) (by kernel_rfl) (by kernel_rfl) (by kernel_rfl)) ?_
  intro W base args ds gs before hval0 hW hcnd hsz0 _
  have hsz : (DataW.weightsEach Try.prog (Try.f9.params.toList ++ Rows.allocChoosesSpec.plain.varTypes Try.prog) (ds ++ gs)).all (· ≤ reachBytes) = true := hsz0
  have hval : ∀ (j : Nat) t v, Try.f9.params[j]? = some t → args[j]? = some v → Value.okWide Try.prog W .any base t v := hval0
  have hW' := hW
  obtain ⟨p, q, hA0, hV, rfl, hfz, hnd⟩ := hW
  have hA : DataW.TrodAll enc Try.prog W 0 (fun _ => true) true Try.f9.params.toList args.toList ds p := hA0
  rw [Try.params9] at hA hval hsz
  obtain ⟨v0, vs0, d0, ds0, p0, q0, hargs, rfl, rfl, h0, r0⟩ := trodAll_cons hA
  obtain ⟨v1, vs1, d1, ds1, p1, q1, rfl, rfl, rfl, h1, r1⟩ := trodAll_cons r0
  obtain ⟨v2, vs2, d2, ds2, p2, q2, rfl, rfl, rfl, h2, r2⟩ := trodAll_cons r1
  obtain ⟨v3, vs3, d3, ds3, p3, q3, rfl, rfl, rfl, h3, r3⟩ := trodAll_cons r2
  obtain ⟨v4, vs4, d4, ds4, p4, q4, rfl, rfl, rfl, h4, r4⟩ := trodAll_cons r3
  obtain ⟨v5, vs5, d5, ds5, p5, q5, rfl, rfl, rfl, h5, r5⟩ := trodAll_cons r4
  obtain ⟨rfl, rfl, rfl⟩ := trodAll_nil r5
  obtain rfl : args = #[v0, v1, v2, v3, v4, v5] := by cases args; simp_all
  obtain ⟨rfl, rfl⟩ := trodVars_none hV
  have k0 := h0
  have lt0 : ∀ x ∈ p0, x.block < W.heap.size := by obtain ⟨m, hm⟩ := k0; exact DataW.trod_lt m _ _ _ hm
  obtain ⟨cs0, rfl, hcs0⟩ := okWide_struct Try.underlying24 (hval 0 24 v0 rfl rfl)
  obtain ⟨x0, hr0, ok_0⟩ : RaT eS24 ok24 W cs0.toList := by
    obtain ⟨fuel, hf⟩ := h0
    exact ra24 H enc W fuel _ _ hf
  have k1 := h1
  have lt1 : ∀ x ∈ p1, x.block < W.heap.size := by obtain ⟨m, hm⟩ := k1; exact DataW.trod_lt m _ _ _ hm
  obtain ⟨A1, n1, c1, rfl⟩ := okWide_slice Try.underlying42 (hval 1 42 v1 rfl rfl)
  obtain ⟨l1, hr1, ok_1⟩ : RaT (fun l : List (S47) => [vS47 l]) (fun xs : List (S47) => xs.length ≤ maxLen ∧ ∀ x ∈ xs, ok47 x) W [.slice A1 n1 c1] := by
    obtain ⟨fuel, hf⟩ := h1
    exact (ra_slice (d := eS47) (sz := 4) (z := z47) Try.underlying42 (by kernel_rfl) (fun _ => rfl) ra47) H enc W fuel _ _ hf
  obtain rfl : n1 = l1.length := (arg_one hr1).sl_len
  obtain ⟨a2, rfl, rfl, rfl, w2⟩ := open_int Try.underlying3 (hval 2 3 v2 rfl rfl) h2
  obtain ⟨a3, rfl, rfl, rfl, y3⟩ := open_string Try.underlying9 (hval 3 9 v3 rfl rfl) h3
  have w3 : a3.size ≤ 140737488351232 := by
    have z := sized_string hsz (j := 3) (t := 9) rfl rfl
    rw [Array.length_toList] at z
    exact z
  obtain ⟨a4, rfl, rfl, rfl, w4⟩ := open_int Try.underlying3 (hval 4 3 v4 rfl rfl) h4
  obtain ⟨a5, rfl, rfl, rfl, w5⟩ := open_int Try.underlying3 (hval 5 3 v5 rfl rfl) h5
  clear hA0 hval0 hsz0 hsz
  refine (boarderlaw15_AllocChooses.walk Pure.AllocChooses x0.f0 x0.f1 x0.f2 l1 a2 a3 a4 a5 W ok_0 ok_1 w2 w3 w4 w5 cs0 hr0 A1 c1 hr1).mono fun e W' ⟨he, bel⟩ => ?_
  subst he
  exact ⟨_, rfl, _, _, _, [], _, [], hW', trodAll_mk1 (shut_bool Try.underlying4 _), (trodAll_cons_mk (Below.trod laidOut (by kernel_rfl) (of_decide_eq_true (by kernel_rfl)) k0 bel lt0) (trodAll_cons_mk (Below.trod laidOut (by kernel_rfl) (of_decide_eq_true (by kernel_rfl)) k1 bel lt1) (trodAll_cons_mk (shut_int Try.underlying3 w2) (trodAll_cons_mk (shut_string Try.underlying9 y3) (trodAll_cons_mk (shut_int Try.underlying3 w4) (trodAll_cons_mk (shut_int Try.underlying3 w5) trodAll_mk0)))))), rfl, bel.frame _, fun h => by cases h⟩
theorem over : Rows.allocChoosesRow.holds Try.pinned (OpenSpec.ofChange Rows.allocChoosesSpec) :=
  OpenClaim.holds_of_wide 9 Try.f9 rfl rfl rfl rfl rfl rfl rfl ⟨rfl, rfl, rfl, rfl, rfl⟩ rfl rfl rfl rfl rfl (by kernel_rfl) Try.func9 (by kernel_rfl)
    (of_decide_eq_true (by kernel_rfl)) (by unfold Func.isWrapper; first | (rw [if_pos (by decide +kernel)]; kernel_rfl) | (rw [if_neg (by decide +kernel)]; exact ⟨rfl, rfl⟩))
    (fun os started H enc _ => lifted os started H enc)
theorem proved : Rows.AllocChoosesSaid := over
#print axioms proved
end Go.Proofs.Ytdcabfonjmeajaa.allocChooses
