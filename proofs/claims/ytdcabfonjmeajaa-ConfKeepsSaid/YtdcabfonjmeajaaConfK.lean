/- What is read as data of the laws' parameters, by the print's kinds; each under its theorem's own conditions. -/
import Derived.Test.YtdcabfonjmeajaaPConfx0
import Derived.Test.YtdcabfonjmeajaaRd
import Derived.KernelRfl
namespace Go.Proofs.Ytdcabfonjmeajaa.PConf
open Go.RowKit Go.Proofs.YtdcabfonjmeajaaW.PrintWords Go.Proofs.YtdcabfonjmeajaaW.PrintLast Go.Proofs.YtdcabfonjmeajaaW.PrintMore
attribute [local go_sem] max2_int min2_int max_two min_two max_three min_three max_four min_four   -- for this text's walks alone
set_option linter.unusedVariables false
set_option linter.unusedSimpArgs false

/-! #### struct type 24 -/
structure S24 where
  f0 : Int
  f1 : Int
  f2 : (List S41)
def z24 : S24 := ⟨(0 : Int), (0 : Int), ([] : List S41)⟩
def k24 : Kd S24 := Kd.iso (Kd.pair (Kd.int .i64) (Kd.pair (Kd.int .i64) (Kd.slice 41 k41))) (fun x : S24 => (x.f0, x.f1, x.f2))
theorem k24_open {w : World} {x : S24} {cs : List Value} (h : k24.K w x cs) : ∃ A2 c2, cs = [.int .i64 x.f0, .int .i64 x.f1, .slice A2 x.f2.length c2] ∧ x.f2.length ≤ c2 ∧ k41.C w A2 x.f2.length x.f2 := by
  obtain ⟨_, _, rfl, rfl, ⟨_, _, rfl, rfl, ⟨A2, c2, rfl, l2, g2⟩⟩⟩ := h
  exact ⟨A2, c2, rfl, l2, g2⟩
def rd_T24 (xs : List S24) (i : Int) : S24 := xs.getD i.toNat z24
def ok62 (x : S62) : Prop := (fun n : Int => (Lit.int .i64 n).wf = true) x.f0 ∧ (fun n : Int => (Lit.int .i64 n).wf = true) x.f1
set_option maxRecDepth 100000 in
theorem rd62 : Com.Rd Try.prog k62 ok62 62 := by
  intro H enc w fuel cs x h
  obtain ⟨xs, n, _, _, hl, hlen, hf⟩ := DataW.trod_struct Try.underlying62 h
  have hC : Try.prog.cellsOf 62 = 2 := by kernel_rfl
  rw [hC] at hl
  exact Com.rdt_imp (fun a h => h) (Com.rdt_iso (g := fun p => (⟨p.1, p.2⟩ : S62)) (fun a => rfl) (Com.rdt_cons 0 1 (Com.rdt_field hlen hf 0 _ rfl 0 1 rfl (by kernel_rfl) (Com.rd_int Try.underlying3)) (Com.rdt_last 1 1 (by omega) (Com.rdt_field hlen hf 1 _ rfl 1 1 rfl (by kernel_rfl) (Com.rd_int Try.underlying3)))))
def ok59 (x : S59) : Prop := (fun s : ByteArray => s.size ≤ maxLen) x.f0 ∧ (fun n : Int => (Lit.int .i64 n).wf = true) x.f1
set_option maxRecDepth 100000 in
theorem rd59 : Com.Rd Try.prog k59 ok59 59 := by
  intro H enc w fuel cs x h
  obtain ⟨xs, n, _, _, hl, hlen, hf⟩ := DataW.trod_struct Try.underlying59 h
  have hC : Try.prog.cellsOf 59 = 2 := by kernel_rfl
  rw [hC] at hl
  exact Com.rdt_imp (fun a h => h) (Com.rdt_iso (g := fun p => (⟨p.1, p.2⟩ : S59)) (fun a => rfl) (Com.rdt_cons 0 1 (Com.rdt_field hlen hf 0 _ rfl 0 1 rfl (by kernel_rfl) (Com.rd_string Try.underlying9)) (Com.rdt_last 1 1 (by omega) (Com.rdt_field hlen hf 1 _ rfl 1 1 rfl (by kernel_rfl) (Com.rd_int Try.underlying3)))))
def ok57 (x : S57) : Prop := (fun n : Int => (Lit.int .i64 n).wf = true) x.f0 ∧ (fun n : Int => (Lit.int .i64 n).wf = true) x.f1 ∧ (fun xs : List (S62) => xs.length ≤ maxLen ∧ ∀ x ∈ xs, ok62 x) x.f2 ∧ (fun xs : List (S59) => xs.length ≤ maxLen ∧ ∀ x ∈ xs, ok59 x) x.f3 ∧ (fun n : Int => (Lit.int .i64 n).wf = true) x.f4 ∧ (fun n : Int => (Lit.int .i64 n).wf = true) x.f5 ∧ (fun n : Int => (Lit.int .i64 n).wf = true) x.f6
set_option maxRecDepth 100000 in
theorem rd57 : Com.Rd Try.prog k57 ok57 57 := by
  intro H enc w fuel cs x h
  obtain ⟨xs, n, _, _, hl, hlen, hf⟩ := DataW.trod_struct Try.underlying57 h
  have hC : Try.prog.cellsOf 57 = 7 := by kernel_rfl
  rw [hC] at hl
  exact Com.rdt_imp (fun a h => h) (Com.rdt_iso (g := fun p => (⟨p.1, p.2.1, p.2.2.1, p.2.2.2.1, p.2.2.2.2.1, p.2.2.2.2.2.1, p.2.2.2.2.2.2⟩ : S57)) (fun a => rfl) (Com.rdt_cons 0 1 (Com.rdt_field hlen hf 0 _ rfl 0 1 rfl (by kernel_rfl) (Com.rd_int Try.underlying3)) (Com.rdt_cons 1 1 (Com.rdt_field hlen hf 1 _ rfl 1 1 rfl (by kernel_rfl) (Com.rd_int Try.underlying3)) (Com.rdt_cons 2 1 (Com.rdt_field hlen hf 2 _ rfl 2 1 rfl (by kernel_rfl) (Com.rd_slice Try.underlying54 (by kernel_rfl) rd62)) (Com.rdt_cons 3 1 (Com.rdt_field hlen hf 3 _ rfl 3 1 rfl (by kernel_rfl) (Com.rd_slice Try.underlying55 (by kernel_rfl) rd59)) (Com.rdt_cons 4 1 (Com.rdt_field hlen hf 4 _ rfl 4 1 rfl (by kernel_rfl) (Com.rd_int Try.underlying3)) (Com.rdt_cons 5 1 (Com.rdt_field hlen hf 5 _ rfl 5 1 rfl (by kernel_rfl) (Com.rd_int Try.underlying3)) (Com.rdt_last 6 1 (by omega) (Com.rdt_field hlen hf 6 _ rfl 6 1 rfl (by kernel_rfl) (Com.rd_int Try.underlying3))))))))))
def ok41 (x : S41) : Prop := (fun xs : List (S57) => xs.length ≤ maxLen ∧ ∀ x ∈ xs, ok57 x) x.f0
set_option maxRecDepth 100000 in
theorem rd41 : Com.Rd Try.prog k41 ok41 41 := by
  intro H enc w fuel cs x h
  obtain ⟨xs, n, _, _, hl, hlen, hf⟩ := DataW.trod_struct Try.underlying41 h
  have hC : Try.prog.cellsOf 41 = 1 := by kernel_rfl
  rw [hC] at hl
  exact Com.rdt_imp (fun a h => h) (Com.rdt_iso (g := fun p => (⟨p⟩ : S41)) (fun a => rfl) (Com.rdt_last 0 1 (by omega) (Com.rdt_field hlen hf 0 _ rfl 0 1 rfl (by kernel_rfl) (Com.rd_slice Try.underlying39 (by kernel_rfl) rd57))))
def ok24 (x : S24) : Prop := (fun n : Int => (Lit.int .i64 n).wf = true) x.f0 ∧ (fun n : Int => (Lit.int .i64 n).wf = true) x.f1 ∧ (fun xs : List (S41) => xs.length ≤ maxLen ∧ ∀ x ∈ xs, ok41 x) x.f2
set_option maxRecDepth 100000 in
theorem rd24 : Com.Rd Try.prog k24 ok24 24 := by
  intro H enc w fuel cs x h
  obtain ⟨xs, n, _, _, hl, hlen, hf⟩ := DataW.trod_struct Try.underlying24 h
  have hC : Try.prog.cellsOf 24 = 3 := by kernel_rfl
  rw [hC] at hl
  exact Com.rdt_imp (fun a h => h) (Com.rdt_iso (g := fun p => (⟨p.1, p.2.1, p.2.2⟩ : S24)) (fun a => rfl) (Com.rdt_cons 0 1 (Com.rdt_field hlen hf 0 _ rfl 0 1 rfl (by kernel_rfl) (Com.rd_int Try.underlying3)) (Com.rdt_cons 1 1 (Com.rdt_field hlen hf 1 _ rfl 1 1 rfl (by kernel_rfl) (Com.rd_int Try.underlying3)) (Com.rdt_last 2 1 (by omega) (Com.rdt_field hlen hf 2 _ rfl 2 1 rfl (by kernel_rfl) (Com.rd_slice Try.underlying22 (by kernel_rfl) rd41))))))
end Go.Proofs.Ytdcabfonjmeajaa.PConf
