/- What is read as data of the laws' parameters, by the print's kinds; each under its theorem's own conditions. -/
import Derived.Test.YtdajdpgnhjlbaaaDoorPLeasex0
import Derived.Test.YtdajdpgnhjlbaaaDoorRd
import Derived.KernelRfl
namespace Go.Proofs.YtdajdpgnhjlbaaaDoor.PLease
open Go.RowKit Go.Proofs.YtdajdpgnhjlbaaaDoorW.PrintWords Go.Proofs.YtdajdpgnhjlbaaaDoorW.PrintLast Go.Proofs.YtdajdpgnhjlbaaaDoorW.PrintMore
attribute [local go_sem] max2_int min2_int max_two min_two max_three min_three max_four min_four   -- for this text's walks alone
set_option linter.unusedVariables false
set_option linter.unusedSimpArgs false

def ok23 (x : S23) : Prop := (fun n : Int => (Lit.int .i64 n).wf = true) x.f0 ∧ (fun n : Int => (Lit.int .i64 n).wf = true) x.f1 ∧ (fun n : Int => (Lit.int .i64 n).wf = true) x.f2 ∧ (fun s : ByteArray => s.size ≤ maxLen) x.f3
set_option maxRecDepth 100000 in
theorem rd23 : Com.Rd Tryd.prog k23 ok23 23 := by
  intro H enc w fuel cs x h
  obtain ⟨xs, n, _, _, hl, hlen, hf⟩ := DataW.trod_struct Tryd.underlying23 h
  have hC : Tryd.prog.cellsOf 23 = 4 := by kernel_rfl
  rw [hC] at hl
  exact Com.rdt_imp (fun a h => h) (Com.rdt_iso (g := fun p => (⟨p.1, p.2.1, p.2.2.1, p.2.2.2⟩ : S23)) (fun a => rfl) (Com.rdt_cons 0 1 (Com.rdt_field hlen hf 0 _ rfl 0 1 rfl (by kernel_rfl) (Com.rd_int Tryd.underlying3)) (Com.rdt_cons 1 1 (Com.rdt_field hlen hf 1 _ rfl 1 1 rfl (by kernel_rfl) (Com.rd_int Tryd.underlying3)) (Com.rdt_cons 2 1 (Com.rdt_field hlen hf 2 _ rfl 2 1 rfl (by kernel_rfl) (Com.rd_int Tryd.underlying3)) (Com.rdt_last 3 1 (by omega) (Com.rdt_field hlen hf 3 _ rfl 3 1 rfl (by kernel_rfl) (Com.rd_string Tryd.underlying9)))))))
end Go.Proofs.YtdajdpgnhjlbaaaDoor.PLease
