/- The given statement on the law LeaseRows: for every input that can be read as data the law of the given program returns true and leaves its arguments as they were; no condition beyond the statement's own. -/
import Derived.Test.YtdajdpgnhjlbaaaDoorRows
import Derived.Test.YtdajdpgnhjlbaaaDoorLeaseRLeaseRows
import Derived.Test.YtdajdpgnhjlbaaaDoorPureLeaseRows
import Derived.WalkKit
import Derived.ProofKit
import Derived.OpenShut
import Derived.ShutString
import Derived.ChangeOld
import Derived.Below
import Derived.SizedLaws
import Derived.Carry
import Derived.Deep.DeepHandedRow
import Derived.Test.YtdajdpgnhjlbaaaDoorCards
import Derived.Test.YtdajdpgnhjlbaaaDoorTie
import Derived.Test.YtdajdpgnhjlbaaaDoorWSized
namespace Go.Proofs.YtdajdpgnhjlbaaaDoor.leaseRows
open Go.Proofs.YtdajdpgnhjlbaaaDoor.PLease Go.ChangeShapes Go.WideShapes Go.ChangeAt Go.RowKit
open Go.ChangeMaps (open_string shut_string)
open Go.Proofs.YtdajdpgnhjlbaaaDoorW.PrintWords
set_option linter.unusedVariables false
set_option linter.unusedSimpArgs false
theorem own : ownKnob Tryd.prog.godebug = none := by kernel_rfl
theorem laidOut : laidOutB Tryd.prog = true := by kernel_rfl
set_option maxRecDepth 100000 in
theorem contract (H : Type) (enc : TypeId × Value → H) (W : World) (base : Nat) (args : Array Value) (ds gs : List (DataW H)) (before : List MemPlace)
    (hval0 : ∀ (j : Nat) t v, Tryd.f8.params[j]? = some t → args[j]? = some v → Value.okWide Tryd.prog W .any base t v)
    (hW : DataW.Whole enc Tryd.prog Tryd.f8.params.toList Rows.leaseRowsSpec.vars false W args.toList ds gs before) (hsz0 : (DataW.weightsEach Tryd.prog (Tryd.f8.params.toList ++ Rows.leaseRowsSpec.plain.varTypes Tryd.prog) (ds ++ gs)).all (· ≤ reachBytes) = true) (hL : laidMetH Tryd.prog Rows.leaseRowsRow.laid W) :
    Calls Tryd.prog 8 args W fun e W' => ∃ v, e = .returned v ∧ Rows.leaseRowsSpec.post enc Tryd.prog Tryd.f8 false true false false W args v W' := by
  have hT := TabW.of_laid hL
  have hsz : (DataW.weightsEach Tryd.prog (Tryd.f8.params.toList ++ Rows.leaseRowsSpec.plain.varTypes Tryd.prog) (ds ++ gs)).all (· ≤ reachBytes) = true := hsz0
  have hval : ∀ (j : Nat) t v, Tryd.f8.params[j]? = some t → args[j]? = some v → Value.okWide Tryd.prog W .any base t v := hval0
  have hW' := hW
  obtain ⟨p, q, hA0, hV, rfl, hfz, hnd⟩ := hW
  have hA : DataW.TrodAll enc Tryd.prog W 0 (fun _ => true) true Tryd.f8.params.toList args.toList ds p := hA0
  rw [Tryd.params8] at hA hval hsz
  obtain ⟨v0, vs0, d0, ds0, p0, q0, hargs, rfl, rfl, h0, r0⟩ := trodAll_cons hA
  obtain ⟨v1, vs1, d1, ds1, p1, q1, rfl, rfl, rfl, h1, r1⟩ := trodAll_cons r0
  obtain ⟨rfl, rfl, rfl⟩ := trodAll_nil r1
  obtain rfl : args = #[v0, v1] := by cases args; simp_all
  obtain ⟨rfl, rfl⟩ := trodVars_none hV
  obtain ⟨A0, len0, c0, rfl⟩ := okWide_slice Tryd.underlying36 (hval 0 36 v0 rfl rfl)
  have k0 := h0
  have lt0 : ∀ x ∈ p0, x.block < W.heap.size := by obtain ⟨m, hm⟩ := k0; exact DataW.trod_lt m _ _ _ hm
  obtain ⟨l0, rfl, ok_0, hr0, hc0⟩ : ∃ l : List (S23), len0 = l.length ∧ ((fun xs : List (S23) => xs.length ≤ maxLen ∧ ∀ x ∈ xs, ok23 x)) l ∧ Kd.C k23 W A0 l.length l ∧ l.length ≤ c0 := by
    obtain ⟨fuel, hf⟩ := h0
    obtain ⟨l, ⟨Ar, cr, he, hc, hr⟩, hok⟩ := (Com.rd_slice Tryd.underlying36 (by kernel_rfl) rd23) H enc W fuel _ _ hf
    have he2 : [Value.slice A0 len0 c0] = [Value.slice Ar l.length cr] := by simpa [Value.cells] using he
    injection he2 with he2 _
    injection he2 with e1 e2 e3
    subst e1 e2 e3
    exact ⟨l, rfl, hok, hr, hc⟩
  obtain ⟨A1, len1, c1, rfl⟩ := okWide_slice Tryd.underlying36 (hval 1 36 v1 rfl rfl)
  have k1 := h1
  have lt1 : ∀ x ∈ p1, x.block < W.heap.size := by obtain ⟨m, hm⟩ := k1; exact DataW.trod_lt m _ _ _ hm
  obtain ⟨l1, rfl, ok_1, hr1, hc1⟩ : ∃ l : List (S23), len1 = l.length ∧ ((fun xs : List (S23) => xs.length ≤ maxLen ∧ ∀ x ∈ xs, ok23 x)) l ∧ Kd.C k23 W A1 l.length l ∧ l.length ≤ c1 := by
    obtain ⟨fuel, hf⟩ := h1
    obtain ⟨l, ⟨Ar, cr, he, hc, hr⟩, hok⟩ := (Com.rd_slice Tryd.underlying36 (by kernel_rfl) rd23) H enc W fuel _ _ hf
    have he2 : [Value.slice A1 len1 c1] = [Value.slice Ar l.length cr] := by simpa [Value.cells] using he
    injection he2 with he2 _
    injection he2 with e1 e2 e3
    subst e1 e2 e3
    exact ⟨l, rfl, hok, hr, hc⟩
  clear hA0 hval0 hsz0 hsz
  refine (boarderlaw24_LeaseRows.walk Pure.LeaseRows A0 c0 l0 A1 c1 l1 W ok_0 ok_1 hr0 hc0 hr1 hc1 hT).mono fun e W' ⟨he, bel⟩ => ?_
  subst he
  exact ⟨_, rfl, _, _, _, [], _, [], hW', trodAll_mk1 (shut_bool Tryd.underlying4 _), (trodAll_cons_mk (Below.trod laidOut (by kernel_rfl) (of_decide_eq_true (by kernel_rfl)) k0 bel lt0) (trodAll_cons_mk (Below.trod laidOut (by kernel_rfl) (of_decide_eq_true (by kernel_rfl)) k1 bel lt1) trodAll_mk0)), rfl, bel.frame _, fun h => by cases h⟩
/-- A world for the witness: the settled one, with the tables as their initialisers lay them. -/
noncomputable def laidWorld (os : Os) : World := { World.holding Tryd.prog os ⟨#[], #[], []⟩ with heap := (((World.holding Tryd.prog os ⟨#[], #[], []⟩).heap).modify 0 (fun o => match o with | .cells _ t frozen => .cells #[.string ⟨#[98, 111, 117, 110, 100]⟩, .string ⟨#[114, 101, 108, 101, 97, 115, 101, 100]⟩, .string ⟨#[100, 101, 99, 108, 105, 110, 101, 100]⟩] t frozen | o => o)).modify 1 (fun o => match o with | .cells _ t frozen => .cells #[.int .u8 48, .int .u8 49, .int .u8 50, .int .u8 51, .int .u8 52, .int .u8 53, .int .u8 54, .int .u8 55, .int .u8 56, .int .u8 57, .int .u8 97, .int .u8 98, .int .u8 99, .int .u8 100, .int .u8 101, .int .u8 102] t frozen | o => o) }
theorem laid_met (os : Os) : laidMet Tryd.prog Rows.leaseRowsRow.laid ((laidWorld os).forCall (fun _ _ => 0) ⟨#[], #[.slice none 0 0, .slice none 0 0], []⟩).memory := laidMet_of_run' 8 (by kernel_rfl) (by kernel_rfl)
theorem reads (os : Os) {H : Type} (enc : TypeId × Value → H) : ∃ ds places, DataW.whole enc Tryd.prog ((laidWorld os).forCall (fun _ _ => 0) ⟨#[], #[.slice none 0 0, .slice none 0 0], []⟩).memory Tryd.f8.params.toList Rows.leaseRowsSpec.vars false (#[.slice none 0 0, .slice none 0 0] : Array Value).toList 8 = some (ds, [], places) := by
  have h : (DataW.whole enc Tryd.prog ((laidWorld os).forCall (fun _ _ => 0) ⟨#[], #[.slice none 0 0, .slice none 0 0], []⟩).memory Tryd.f8.params.toList Rows.leaseRowsSpec.vars false (#[.slice none 0 0, .slice none 0 0] : Array Value).toList 8).map (fun x => x.2.1.isEmpty) = some true := by kernel_rfl
  obtain ⟨⟨ds, gs, pl⟩, ho, hb⟩ := Option.map_eq_some_iff.1 h
  obtain rfl := List.isEmpty_iff.1 hb
  exact ⟨ds, pl, ho⟩
set_option maxRecDepth 100000 in
theorem lifted (os : Os) (started : os.Started) (H : Type) (enc : TypeId × Value → H) (F : Stop.Interp) :
    ReturnsInHanded {} Tryd.checked os 8 .any ((OpenSpec.ofChange Rows.leaseRowsSpec).preRow enc Tryd.prog Tryd.f8 Rows.leaseRowsRow.domain false Rows.leaseRowsRow.laid) (((OpenSpec.ofChange Rows.leaseRowsSpec).at F).post enc Tryd.prog Tryd.f8 false true false false) := by
  obtain ⟨ds0, places, hx⟩ := reads os enc
  refine returnsInHanded_of_row (C := Tryd.checked) (s := OpenSpec.ofChange Rows.leaseRowsSpec) own started (by kernel_rfl) Tryd.func8
    (witness_row_at (enc := enc) (C := Tryd.checked) false (laidWorld os) #[.slice none 0 0, .slice none 0 0] rfl (by kernel_rfl) (by kernel_rfl) (by kernel_rfl)
      (OpenSpec.preRow_of_cond 8 hx (by kernel_rfl) (fun k hk => by cases hk) (by kernel_rfl) (laid_met os))) ?_
  intro W base args ds gs before hval hW _ _ hsz hL _ _
  exact contract H enc W base args ds gs before hval hW hsz hL
theorem said : Rows.LeaseRowsSaid :=
  OpenClaim.holds_of_cond 8 Tryd.f8 rfl rfl rfl rfl rfl rfl rfl ⟨rfl, rfl, rfl, rfl, rfl⟩ rfl rfl rfl rfl rfl (by kernel_rfl) Tryd.func8 (by kernel_rfl)
    (of_decide_eq_true (by kernel_rfl)) (by unfold Func.isWrapper; first | (rw [if_pos (by decide +kernel)]; kernel_rfl) | (rw [if_neg (by decide +kernel)]; exact ⟨rfl, rfl⟩))
    (fun os started H enc _ F => by rw [OpenClaim.pre_eq_preRow]; exact lifted os started H enc F)
/-- No parameter wants a stand-in; the program's own looks are off. -/
theorem plain (f : FuncId) (fn : Func) (hf : Tryd.pinned.checked.prog.funcNamed "boarder/boarderlaw24.LeaseRows" = some f) (hfn : Tryd.pinned.checked.prog.funcs[f]? = some fn) :
    false = Tryd.pinned.checked.prog.looks [] ∧ ∀ (j : Nat) t, fn.params[j]? = some t → Tryd.pinned.checked.prog.wantsStandIn t = false := by
  obtain rfl : f = 8 := Option.some.inj ((show Tryd.prog.funcNamed "boarder/boarderlaw24.LeaseRows" = some 8 by kernel_rfl).symm.trans hf) |>.symm
  obtain rfl : fn = Tryd.f8 := (Option.some.inj (Tryd.func8.symm.trans hfn)).symm
  refine ⟨by kernel_rfl, fun j t ht => ?_⟩
  rw [Tryd.params8] at ht
  have hm := Array.mem_of_getElem? ht
  simp only [List.mem_toArray, List.mem_cons, List.not_mem_nil, or_false] at hm
  rcases hm with rfl | rfl
  · exact (show Tryd.prog.wantsStandIn 36 = false by kernel_rfl)
  · exact (show Tryd.prog.wantsStandIn 36 = false by kernel_rfl)
theorem proved : Rows.LeaseRowsCardSaid :=
  Claim7.holds_tied_plain_at .later [] _ _ _ _ said (fun _ h => by cases h) (by kernel_rfl) (fun _ h => by cases h) leaseRows_row_tie rfl ⟨rfl, rfl⟩ (by kernel_rfl) rfl plain (by kernel_rfl)
#print axioms proved
end Go.Proofs.YtdajdpgnhjlbaaaDoor.leaseRows
