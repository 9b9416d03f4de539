/- What is read as data of the laws' parameters, by the print's kinds; each under its theorem's own conditions. -/
import Derived.Test.YtkjmfnijagdhpaaDoorPKeyx0
import Derived.Test.YtkjmfnijagdhpaaDoorRd
import Derived.KernelRfl
namespace Go.Proofs.YtkjmfnijagdhpaaDoor.PKey
open Go.RowKit Go.Proofs.YtkjmfnijagdhpaaDoorW.PrintWords Go.Proofs.YtkjmfnijagdhpaaDoorW.PrintLast Go.Proofs.YtkjmfnijagdhpaaDoorW.PrintMore
attribute [local go_sem] max2_int min2_int max_two min_two max_three min_three max_four min_four   -- for this text's walks alone
set_option linter.unusedVariables false
set_option linter.unusedSimpArgs false

def ok52 (x : S52) : Prop := (fun n : Int => (Lit.int .i64 n).wf = true) x.f0 ∧ (fun xs : List Int => xs.length ≤ maxLen ∧ ∀ x ∈ xs, (fun n : Int => (Lit.int .u8 n).wf = true) x) x.f1
set_option maxRecDepth 100000 in
theorem rd52 : Com.Rd Tryd.prog k52 ok52 52 := by
  intro H enc w fuel cs x h
  obtain ⟨xs, n, _, _, hl, hlen, hf⟩ := DataW.trod_struct Tryd.underlying52 h
  have hC : Tryd.prog.cellsOf 52 = 2 := by kernel_rfl
  rw [hC] at hl
  exact Com.rdt_imp (fun a h => h) (Com.rdt_iso (g := fun p => (⟨p.1, p.2⟩ : S52)) (fun a => rfl) (Com.rdt_cons 0 1 (Com.rdt_field hlen hf 0 _ rfl 0 1 rfl (by kernel_rfl) (Com.rd_int Tryd.underlying3)) (Com.rdt_last 1 1 (by omega) (Com.rdt_field hlen hf 1 _ rfl 1 1 rfl (by kernel_rfl) (Com.rd_slice Tryd.underlying22 (by kernel_rfl) (Com.rd_int Tryd.underlying5))))))
def ok25 (x : S25) : Prop := (fun n : Int => (Lit.int .i64 n).wf = true) x.f0 ∧ (fun n : Int => (Lit.int .i64 n).wf = true) x.f1 ∧ (fun n : Int => (Lit.int .i64 n).wf = true) x.f2 ∧ (fun n : Int => (Lit.int .i64 n).wf = true) x.f3 ∧ (fun n : Int => (Lit.int .i64 n).wf = true) x.f4 ∧ (fun n : Int => (Lit.int .i64 n).wf = true) x.f5 ∧ (fun n : Int => (Lit.int .i64 n).wf = true) x.f6 ∧ (fun n : Int => (Lit.int .i64 n).wf = true) x.f7 ∧ (fun n : Int => (Lit.int .i64 n).wf = true) x.f8 ∧ (fun n : Int => (Lit.int .i64 n).wf = true) x.f9 ∧ (fun n : Int => (Lit.int .i64 n).wf = true) x.f10 ∧ (fun xs : List Int => xs.length ≤ maxLen ∧ ∀ x ∈ xs, (fun n : Int => (Lit.int .u8 n).wf = true) x) x.f11 ∧ (fun xs : List (S52) => xs.length ≤ maxLen ∧ ∀ x ∈ xs, ok52 x) x.f12
set_option maxRecDepth 100000 in
theorem rd25 : Com.Rd Tryd.prog k25 ok25 25 := by
  intro H enc w fuel cs x h
  obtain ⟨xs, n, _, _, hl, hlen, hf⟩ := DataW.trod_struct Tryd.underlying25 h
  have hC : Tryd.prog.cellsOf 25 = 13 := by kernel_rfl
  rw [hC] at hl
  exact Com.rdt_imp (fun a h => h) (Com.rdt_iso (g := fun p => (⟨p.1, p.2.1, p.2.2.1, p.2.2.2.1, p.2.2.2.2.1, p.2.2.2.2.2.1, p.2.2.2.2.2.2.1, p.2.2.2.2.2.2.2.1, p.2.2.2.2.2.2.2.2.1, p.2.2.2.2.2.2.2.2.2.1, p.2.2.2.2.2.2.2.2.2.2.1, p.2.2.2.2.2.2.2.2.2.2.2.1, p.2.2.2.2.2.2.2.2.2.2.2.2⟩ : S25)) (fun a => rfl) (Com.rdt_cons 0 1 (Com.rdt_field hlen hf 0 _ rfl 0 1 rfl (by kernel_rfl) (Com.rd_int Tryd.underlying3)) (Com.rdt_cons 1 1 (Com.rdt_field hlen hf 1 _ rfl 1 1 rfl (by kernel_rfl) (Com.rd_int Tryd.underlying3)) (Com.rdt_cons 2 1 (Com.rdt_field hlen hf 2 _ rfl 2 1 rfl (by kernel_rfl) (Com.rd_int Tryd.underlying3)) (Com.rdt_cons 3 1 (Com.rdt_field hlen hf 3 _ rfl 3 1 rfl (by kernel_rfl) (Com.rd_int Tryd.underlying3)) (Com.rdt_cons 4 1 (Com.rdt_field hlen hf 4 _ rfl 4 1 rfl (by kernel_rfl) (Com.rd_int Tryd.underlying3)) (Com.rdt_cons 5 1 (Com.rdt_field hlen hf 5 _ rfl 5 1 rfl (by kernel_rfl) (Com.rd_int Tryd.underlying3)) (Com.rdt_cons 6 1 (Com.rdt_field hlen hf 6 _ rfl 6 1 rfl (by kernel_rfl) (Com.rd_int Tryd.underlying3)) (Com.rdt_cons 7 1 (Com.rdt_field hlen hf 7 _ rfl 7 1 rfl (by kernel_rfl) (Com.rd_int Tryd.underlying3)) (Com.rdt_cons 8 1 (Com.rdt_field hlen hf 8 _ rfl 8 1 rfl (by kernel_rfl) (Com.rd_int Tryd.underlying3)) (Com.rdt_cons 9 1 (Com.rdt_field hlen hf 9 _ rfl 9 1 rfl (by kernel_rfl) (Com.rd_int Tryd.underlying3)) (Com.rdt_cons 10 1 (Com.rdt_field hlen hf 10 _ rfl 10 1 rfl (by kernel_rfl) (Com.rd_int Tryd.underlying3)) (Com.rdt_cons 11 1 (Com.rdt_field hlen hf 11 _ rfl 11 1 rfl (by kernel_rfl) (Com.rd_slice Tryd.underlying22 (by kernel_rfl) (Com.rd_int Tryd.underlying5))) (Com.rdt_last 12 1 (by omega) (Com.rdt_field hlen hf 12 _ rfl 12 1 rfl (by kernel_rfl) (Com.rd_slice Tryd.underlying23 (by kernel_rfl) rd52))))))))))))))))
end Go.Proofs.YtkjmfnijagdhpaaDoor.PKey
