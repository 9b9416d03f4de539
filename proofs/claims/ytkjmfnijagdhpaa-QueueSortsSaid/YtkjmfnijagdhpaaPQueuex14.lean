/- Lean functions for Go functions of the given program, and proofs that the code computes them, each under its theorem's own conditions. Written by a program of this session. -/
import Derived.Test.YtkjmfnijagdhpaaPQueuex0
import Derived.Test.YtkjmfnijagdhpaaPQueuex2
import Derived.Test.YtkjmfnijagdhpaaPQueuex3
import Derived.Test.YtkjmfnijagdhpaaPQueuex4
import Derived.Test.YtkjmfnijagdhpaaPQueuex7
import Derived.Test.YtkjmfnijagdhpaaPQueuex9
namespace Go.Proofs.Ytkjmfnijagdhpaa.PQueue
open Go.RowKit Go.Proofs.YtkjmfnijagdhpaaW.PrintWords Go.Proofs.YtkjmfnijagdhpaaW.PrintLast Go.Proofs.YtkjmfnijagdhpaaW.PrintMore
attribute [local go_sem] max2_int min2_int max_two min_two max_three min_three max_four min_four   -- for this text's walks alone
set_option linter.unusedVariables false
set_option linter.unusedSimpArgs false

/-! ### boarderlaw25_QueueSorts: function 3 -/
def boarderlaw25_QueueSorts.f (k : Nat) (l0 : List (S34)) : Option (Bool) := (boarderlaw12_Great.f k l0).bind fun t250 => (if t250 = true then ((boarderlaw25_knows.f k).bind fun t251 => (some t251)) else ((queue_ByEnd.f k l0).bind fun t252 => ((boarderref25_ByEnd.f k l0).bind fun t255 => ((boarderref10_SameLeases.f k t252 t255).bind fun t258 => (if t258 = true then ((boarderlaw25_knows.f k).bind fun t259 => (some t259)) else (none))))))
theorem boarderlaw25_QueueSorts.mono : ∀ a0 k, LeO (boarderlaw25_QueueSorts.f k a0) (boarderlaw25_QueueSorts.f (k + 1) a0) := by
  intro a0 k
  unfold boarderlaw25_QueueSorts.f
  repeat' first
      | (with_reducible exact boarderlaw12_Great.mono _ _)
      | (with_reducible exact boarderlaw25_knows.mono _)
      | (with_reducible exact boarderref10_SameLeases.mono _ _ _)
      | (with_reducible exact boarderref25_ByEnd.mono _ _)
      | (with_reducible exact queue_ByEnd.mono _ _)
      | (with_reducible exact LeO.refl _)
      | (with_reducible exact LeO.none _)
      | (with_reducible refine LeO.ite ?_ ?_)
      | (with_reducible refine LeO.bind ?_ (fun _ => ?_))
      | exact boarderlaw12_Great.mono _ _
      | exact boarderlaw25_knows.mono _
      | exact boarderref10_SameLeases.mono _ _ _
      | exact boarderref25_ByEnd.mono _ _
      | exact queue_ByEnd.mono _ _
      | exact LeO.none _
      | refine LeO.ite ?_ ?_
      | refine LeO.bind ?_ (fun _ => ?_)
set_option maxHeartbeats 8000000 in
set_option maxRecDepth 100000 in
theorem boarderlaw25_QueueSorts.calls (k : Nat) (A0 : Option Addr) (c0 : Nat) (l0 : List (S34)) (r : Bool) (w : World) (hr0 : Kd.C k34 w A0 l0.length l0) (hc0 : l0.length ≤ c0) (h : boarderlaw25_QueueSorts.f k l0 = some r) :
    Calls Try.prog 3 #[.slice A0 l0.length c0] w fun e w' => e = .returned (.bool r) ∧ Below w.heap.size w w' := by
  have HR0 := Aside0.mk hr0
  have HC0 := Aside0.mk hc0
  clear hr0 hc0
  have HB := Aside0.mk (Below.refl w.heap.size w)
  have H : ((boarderlaw12_Great.f k l0).bind fun t250 => (if t250 = true then ((boarderlaw25_knows.f k).bind fun t251 => (some t251)) else ((queue_ByEnd.f k l0).bind fun t252 => ((boarderref25_ByEnd.f k l0).bind fun t255 => ((boarderref10_SameLeases.f k t252 t255).bind fun t258 => (if t258 = true then ((boarderlaw25_knows.f k).bind fun t259 => (some t259)) else (none))))))) = some r := h
  clear h
  replace H := Option.bind_eq_some_iff.mp H
  obtain ⟨t250, A20, H⟩ := H
  replace H : (if t250 = true then ((boarderlaw25_knows.f k).bind fun t251 => (some t251)) else ((queue_ByEnd.f k l0).bind fun t252 => ((boarderref25_ByEnd.f k l0).bind fun t255 => ((boarderref10_SameLeases.f k t252 t255).bind fun t258 => (if t258 = true then ((boarderlaw25_knows.f k).bind fun t259 => (some t259)) else (none)))))) = some r := H
  have A2 := Aside0.mk A20
  clear A20
  by_cases c3 : t250 = true
  · subst c3
    have H1 : ((boarderlaw25_knows.f k).bind fun t251 => (some t251)) = some r := by rw [if_pos rfl] at H; exact H
    clear H
    have H := H1
    clear H1
    replace H := Option.bind_eq_some_iff.mp H
    obtain ⟨t251, A40, H⟩ := H
    replace H : (some t251) = some r := H
    have A4 := Aside0.mk A40
    clear A40
    obtain rfl := Option.some.inj H
    go_enter Try.func3, Try.ntmps3
    go_wp2_with (first | ((with_reducible refine gate_callee (f := 8) rfl ?_); refine goesL_ (some 4) rfl rfl Try.func8 (by kernel_rfl) rfl #[.slice A0 l0.length c0] rfl (by (try simp only [List.map_toArray, List.map_cons, List.map_nil]); first | done | rfl | (simp only [List.length_drop, List.length_take]; rfl)) ?_; (with_reducible refine (boarderlaw12_Great.calls k _ _ l0 true _ ?side1 ?side2 A2.out).mono ?_); (case side1 => repeat (first | exact HR0.out | (with_reducible refine Kd.C_alloc ?_ _) | (with_reducible refine Kd.C_drewN ?_ _) | (with_reducible refine Kd.C_drew ?_))); (case side2 => exact HC0.out); rintro e w' ⟨rfl, ⟨nd, rfl⟩⟩; refine ⟨_, rfl, ?_⟩) | ((with_reducible refine gate_callee (f := 9) rfl ?_); refine goesL_ (some 5) rfl rfl Try.func9 (by kernel_rfl) rfl #[] rfl (by (try simp only [List.map_toArray, List.map_cons, List.map_nil]); first | done | rfl | (simp only [List.length_drop, List.length_take]; rfl)) ?_; (with_reducible refine (boarderlaw25_knows.calls k  t251 _ A4.out).mono ?_); rintro e w5 ⟨rfl, hb⟩; refine ⟨_, rfl, ?_⟩; have n0_ := Aside0.mk (below_step (by repeat (first | (with_reducible first | exact HB.out | apply below_alloc | apply pw_below_drewN | apply below_drew1) | exact HB.out)) hb); clear HB; have HB := n0_; clear n0_; (try clear hb); (try clear hb2); (try clear hk); (try clear hi)))
    go_ret
    exact ⟨by first | rfl | (simp [errW_none, errW_some] <;> rfl) | (simp [*, errW_none, errW_some] <;> rfl), by repeat (first | (with_reducible first | exact HB.out | apply below_alloc | apply pw_below_drewN | apply below_drew1) | exact HB.out)⟩
  · replace c3 := Bool.eq_false_iff.mpr c3
    subst c3
    have H1 : ((queue_ByEnd.f k l0).bind fun t252 => ((boarderref25_ByEnd.f k l0).bind fun t255 => ((boarderref10_SameLeases.f k t252 t255).bind fun t258 => (if t258 = true then ((boarderlaw25_knows.f k).bind fun t259 => (some t259)) else (none))))) = some r := by rw [if_neg (show ¬ (false = true) by decide)] at H; exact H
    clear H
    have H := H1
    clear H1
    replace H := Option.bind_eq_some_iff.mp H
    obtain ⟨t252, A60, H⟩ := H
    replace H : ((boarderref25_ByEnd.f k l0).bind fun t255 => ((boarderref10_SameLeases.f k t252 t255).bind fun t258 => (if t258 = true then ((boarderlaw25_knows.f k).bind fun t259 => (some t259)) else (none)))) = some r := H
    have A6 := Aside0.mk A60
    clear A60
    replace H := Option.bind_eq_some_iff.mp H
    obtain ⟨t255, A70, H⟩ := H
    replace H : ((boarderref10_SameLeases.f k t252 t255).bind fun t258 => (if t258 = true then ((boarderlaw25_knows.f k).bind fun t259 => (some t259)) else (none))) = some r := H
    have A7 := Aside0.mk A70
    clear A70
    replace H := Option.bind_eq_some_iff.mp H
    obtain ⟨t258, A80, H⟩ := H
    replace H : (if t258 = true then ((boarderlaw25_knows.f k).bind fun t259 => (some t259)) else (none)) = some r := H
    have A8 := Aside0.mk A80
    clear A80
    by_cases c9 : t258 = true
    · subst c9
      have H1 : ((boarderlaw25_knows.f k).bind fun t259 => (some t259)) = some r := by rw [if_pos rfl] at H; exact H
      clear H
      have H := H1
      clear H1
      replace H := Option.bind_eq_some_iff.mp H
      obtain ⟨t259, A100, H⟩ := H
      replace H : (some t259) = some r := H
      have A10 := Aside0.mk A100
      clear A100
      obtain rfl := Option.some.inj H
      go_enter Try.func3, Try.ntmps3
      go_wp2_with (first | ((with_reducible refine gate_callee (f := 8) rfl ?_); refine goesL_ (some 4) rfl rfl Try.func8 (by kernel_rfl) rfl #[.slice A0 l0.length c0] rfl (by (try simp only [List.map_toArray, List.map_cons, List.map_nil]); first | done | rfl | (simp only [List.length_drop, List.length_take]; rfl)) ?_; (with_reducible refine (boarderlaw12_Great.calls k _ _ l0 false _ ?side1 ?side2 A2.out).mono ?_); (case side1 => repeat (first | exact HR0.out | (with_reducible refine Kd.C_alloc ?_ _) | (with_reducible refine Kd.C_drewN ?_ _) | (with_reducible refine Kd.C_drew ?_))); (case side2 => exact HC0.out); rintro e w' ⟨rfl, ⟨nd, rfl⟩⟩; refine ⟨_, rfl, ?_⟩) | ((with_reducible refine gate_callee (f := 11) rfl ?_); refine goesL_ (some 7) rfl rfl Try.func11 (by kernel_rfl) rfl #[.slice A0 l0.length c0] rfl (by (try simp only [List.map_toArray, List.map_cons, List.map_nil]); first | done | rfl | (simp only [List.length_drop, List.length_take]; rfl)) ?_; (with_reducible refine (queue_ByEnd.calls k _ _ l0 t252 _ ?side1 ?side2 A6.out).mono ?_); (case side1 => repeat (first | exact HR0.out | (with_reducible refine Kd.C_alloc ?_ _) | (with_reducible refine Kd.C_drewN ?_ _) | (with_reducible refine Kd.C_drew ?_))); (case side2 => exact HC0.out); rintro e w11 ⟨v253, rfl, ho0, hb⟩; refine ⟨_, rfl, ?_⟩; have n0_ := Aside0.mk (Kd.R_lower ho0 (below_size (by repeat (first | (with_reducible first | exact HB.out | apply below_alloc | apply pw_below_drewN | apply below_drew1) | exact HB.out)))); have n1_ := Aside0.mk (below_step (by repeat (first | (with_reducible first | exact HB.out | apply below_alloc | apply pw_below_drewN | apply below_drew1) | exact HB.out)) hb); clear HB; have HO254 := n0_; have HB := n1_; clear n0_ n1_; (try clear hb); (try clear hb2); (try clear hk); (try clear hi); (try clear ho0)) | ((with_reducible refine gate_callee (f := 12) rfl ?_); refine goesL_ (some 9) rfl rfl Try.func12 (by kernel_rfl) rfl #[.slice A0 l0.length c0] rfl (by (try simp only [List.map_toArray, List.map_cons, List.map_nil]); first | done | rfl | (simp only [List.length_drop, List.length_take]; rfl)) ?_; (with_reducible refine (boarderref25_ByEnd.calls k _ _ l0 t255 _ ?side1 ?side2 A7.out).mono ?_); (case side1 => repeat (first | exact (Kd.C_below HR0.out HB.out) | (with_reducible refine Kd.C_alloc ?_ _) | (with_reducible refine Kd.C_drewN ?_ _) | (with_reducible refine Kd.C_drew ?_))); (case side2 => exact HC0.out); rintro e w12 ⟨v256, rfl, ho0, hb⟩; refine ⟨_, rfl, ?_⟩; have n0_ := Aside0.mk (Kd.R_elder' (by (with_reducible repeat (first | apply Kd.R_alloc | apply Kd.R_drewN | apply Kd.R_drew)); exact HO254.out) (Kd.R_base ho0) hb); have n1_ := Aside0.mk (Kd.R_lower (Kd.R_new' ho0 (Kd.R_lt (by (with_reducible repeat (first | apply Kd.R_alloc | apply Kd.R_drewN | apply Kd.R_drew)); exact HO254.out))) (below_size (by repeat (first | (with_reducible first | exact HB.out | apply below_alloc | apply pw_below_drewN | apply below_drew1) | exact HB.out)))); have n2_ := Aside0.mk (below_step (by repeat (first | (with_reducible first | exact HB.out | apply below_alloc | apply pw_below_drewN | apply below_drew1) | exact HB.out)) hb); clear HO254; clear HB; have HO254 := n0_; have HO257 := n1_; have HB := n2_; clear n0_ n1_ n2_; (try clear hb); (try clear hb2); (try clear hk); (try clear hi); (try clear ho0); obtain ⟨Ao13, co13, eo13⟩ := Kd.R_slice HO254.out; subst eo13; obtain ⟨Ao14, co14, eo14⟩ := Kd.R_slice HO257.out; subst eo14) | ((with_reducible refine gate_callee (f := 10) rfl ?_); refine goesL_ (some 10) rfl rfl Try.func10 (by kernel_rfl) rfl #[.slice Ao13 t252.length co13, .slice Ao14 t255.length co14] rfl (by (try simp only [List.map_toArray, List.map_cons, List.map_nil]); first | done | rfl | (simp only [List.length_drop, List.length_take]; rfl)) ?_; (with_reducible refine (boarderref10_SameLeases.calls k _ _ t252 _ _ t255 true _ ?side1 ?side2 ?side3 ?side4 A8.out).mono ?_); (case side1 => repeat (first | exact (Kd.R_reads' HO254.out).2.2 | (with_reducible refine Kd.C_alloc ?_ _) | (with_reducible refine Kd.C_drewN ?_ _) | (with_reducible refine Kd.C_drew ?_))); (case side2 => exact (Kd.R_reads' HO254.out).2.1); (case side3 => repeat (first | exact (Kd.R_reads' HO257.out).2.2 | (with_reducible refine Kd.C_alloc ?_ _) | (with_reducible refine Kd.C_drewN ?_ _) | (with_reducible refine Kd.C_drew ?_))); (case side4 => exact (Kd.R_reads' HO257.out).2.1); rintro e w' ⟨rfl, ⟨nd, rfl⟩⟩; refine ⟨_, rfl, ?_⟩) | (go_at_call 9; (with_reducible refine (boarderlaw25_knows.calls k  t259 _ A10.out).mono ?_); rintro e w15 ⟨rfl, hb⟩; have n0_ := Aside0.mk (Kd.R_below (by (with_reducible repeat (first | apply Kd.R_alloc | apply Kd.R_drewN | apply Kd.R_drew)); exact HO254.out) hb); have n1_ := Aside0.mk (Kd.R_below (by (with_reducible repeat (first | apply Kd.R_alloc | apply Kd.R_drewN | apply Kd.R_drew)); exact HO257.out) hb); have n2_ := Aside0.mk (below_step (by repeat (first | (with_reducible first | exact HB.out | apply below_alloc | apply pw_below_drewN | apply below_drew1) | exact HB.out)) hb); clear HO254; clear HO257; clear HB; have HO254 := n0_; have HO257 := n1_; have HB := n2_; clear n0_ n1_ n2_; (try clear hb); (try clear hb2); (try clear hk); (try clear hi)))
      go_ret
      exact ⟨by first | rfl | (simp [errW_none, errW_some] <;> rfl) | (simp [*, errW_none, errW_some] <;> rfl), by repeat (first | (with_reducible first | exact HB.out | apply below_alloc | apply pw_below_drewN | apply below_drew1) | exact HB.out)⟩
    · replace c9 := Bool.eq_false_iff.mpr c9
      subst c9
      have H1 : (none) = some r := by rw [if_neg (show ¬ (false = true) by decide)] at H; exact H
      clear H
      have H := H1
      clear H1
      exact absurd H (by simp)

end Go.Proofs.Ytkjmfnijagdhpaa.PQueue
