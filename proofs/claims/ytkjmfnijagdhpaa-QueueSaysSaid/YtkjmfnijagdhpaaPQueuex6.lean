/- Lean functions for Go functions of the given program, and proofs that the code computes them, each under its theorem's own conditions. Written by a program of this session. -/
import Derived.Test.YtkjmfnijagdhpaaPQueuex0
import Derived.Test.YtkjmfnijagdhpaaPQueuex5
namespace Go.Proofs.Ytkjmfnijagdhpaa.PQueue
open Go.RowKit Go.Proofs.YtkjmfnijagdhpaaW.PrintWords Go.Proofs.YtkjmfnijagdhpaaW.PrintLast Go.Proofs.YtkjmfnijagdhpaaW.PrintMore
attribute [local go_sem] max2_int min2_int max_two min_two max_three min_three max_four min_four   -- for this text's walks alone
set_option linter.unusedVariables false
set_option linter.unusedSimpArgs false

/-! ### boarderref12_Good: function 25 -/
/-- What is handed back: the table, or nil. -/
def boarderref12_Good.f (k : Nat) (l0 : List S34) : Option (List S34) := (boarderref12_Right.f k l0).bind fun b => some (cond b l0 [])
theorem boarderref12_Good.mono : ∀ a0 k, LeO (boarderref12_Good.f k a0) (boarderref12_Good.f (k + 1) a0) := by
 intro a0 k
 have h := boarderref12_Right.mono a0 k
 unfold boarderref12_Good.f
 revert h
 cases boarderref12_Right.f k a0 with
 | none => intro _; exact fun _ h => by simp at h
 | some v => intro h; rw [h v rfl]; exact fun _ h => h
set_option maxHeartbeats 4000000 in
set_option maxRecDepth 100000 in
theorem boarderref12_Good.calls (k : Nat) (A0 : Option Addr) (c0 : Nat) (l0 r : List S34) (w : World) (hr0 : Kd.C k34 w A0 l0.length l0) (hc0 : l0.length ≤ c0) (h : boarderref12_Good.f k l0 = some r) :
    Calls Try.prog 25 #[.slice A0 l0.length c0] w (fun (e : Ending) (w' : World) => ∃ A c, e = .returned (.slice A r.length c) ∧ (∀ wr : World, Kd.C k34 wr A0 l0.length l0 → Kd.C k34 wr A r.length r) ∧ r.length ≤ c ∧ Below w.heap.size w w') := by
 unfold boarderref12_Good.f at h
 obtain ⟨b, h0, h1⟩ := Option.bind_eq_some_iff.mp h
 obtain rfl := Option.some.inj h1
 have HR := Aside0.mk hr0
 have HC := Aside0.mk hc0
 have HH := Aside0.mk h0
 clear hr0 hc0 h h0 h1
 cases b with
 | true =>
  go_enter Try.func25, Try.ntmps25
  go_wp2_with (go_at_call 36; refine (boarderref12_Right.calls _ _ _ _ _ _ HR.out HC.out HH.out).mono ?_; rintro e w' ⟨rfl, hb⟩; have HB := sqM hb; clear hb)
  go_ret
  exact ⟨_, _, rfl, fun _ h => h, HC.out, HB.out⟩
 | false =>
  go_enter Try.func25, Try.ntmps25
  go_wp2_with (go_at_call 36; refine (boarderref12_Right.calls _ _ _ _ _ _ HR.out HC.out HH.out).mono ?_; rintro e w' ⟨rfl, hb⟩; have HB := sqM hb; clear hb)
  go_ret
  exact ⟨none, 0, rfl, fun _ _ => Kd.C_nil _ _, Nat.le_refl _, HB.out⟩

end Go.Proofs.Ytkjmfnijagdhpaa.PQueue
