/- The package-level tables that the laws of this group read: what a world holds of them; each under its theorem's own conditions. -/
import Derived.Test.YtdajdpgnhjlbaaaDoorWMore
import Derived.Test.YtdajdpgnhjlbaaaDoorCards
import Derived.Test.YtdajdpgnhjlbaaaDoorOwn
import Derived.Lib.LaidTab
set_option linter.unusedVariables false
namespace Go.Proofs.YtdajdpgnhjlbaaaDoor.PLease
open Go.RowKit Go.Proofs.YtdajdpgnhjlbaaaDoorW.PrintWords Go.Proofs.YtdajdpgnhjlbaaaDoorW.PrintLast Go.Proofs.YtdajdpgnhjlbaaaDoorW.PrintMore
/-- key.digits. -/
def tab1 : List Int := [48, 49, 50, 51, 52, 53, 54, 55, 56, 57, 97, 98, 99, 100, 101, 102]
/-- ltext.states. -/
def tab0 : List ByteArray := [⟨#[98, 111, 117, 110, 100]⟩, ⟨#[114, 101, 108, 101, 97, 115, 101, 100]⟩, ⟨#[100, 101, 99, 108, 105, 110, 101, 100]⟩]
/-- The tables are there. -/
structure TabW (w : World) : Prop where
  t1 : Kd.C (Kd.int .u8) w (some ⟨1, 0, none⟩) 16 tab1
  t0 : Kd.C Kd.string w (some ⟨0, 0, none⟩) 3 tab0
theorem TabW.below {w w' : World} (h : TabW w) (hb : Below w.heap.size w w') : TabW w' := ⟨Kd.C_below h.t1 hb, Kd.C_below h.t0 hb⟩
theorem TabW.drawn {w w' : World} (h : TabW w) (hb : Drawn0 w w') : TabW w' := h.below hb.below
theorem gTab : Tryd.prog.globalNamed "boarder/key.digits" = some 1 := by kernel_rfl
theorem gTabType : (Tryd.prog.globals[1]?).map (·.type) = some 102 := by kernel_rfl
theorem cellsTab : Tryd.prog.cellsOf 102 = 16 := by kernel_rfl
theorem cellsU8 : Tryd.prog.cellsOf 5 = 1 := by kernel_rfl
theorem gStates : Tryd.prog.globalNamed "boarder/ltext.states" = some 0 := by kernel_rfl
theorem gStatesType : (Tryd.prog.globals[0]?).map (·.type) = some 60 := by kernel_rfl
theorem cellsStates : Tryd.prog.cellsOf 60 = 3 := by kernel_rfl
theorem cellsStr : Tryd.prog.cellsOf 9 = 1 := by kernel_rfl
/-- An array of texts that reads as these has them, cell for cell. -/
theorem cells_of_strs {H : Type} {enc : TypeId × Value → H} {P : Program} {w : World} {base : Nat} {sp : Nat → Bool} {held : Bool} {fuel : Nat} {t e : TypeId} {n : Nat} {cs : List Value} {zs : List ByteArray} {p : List MemPlace}
    (ht : P.underlying t = some (.array n e)) (he : P.underlying e = some .string) (hce : P.cellsOf e = 1) (hct : P.cellsOf t = n)
    (h : DataW.trod enc P w base sp held fuel t cs = some (.agg (zs.map fun z => .lit (.string z.data.toList)), p)) : cs = zs.map fun z => Value.string z := by
  cases fuel with
  | zero => simp [DataW.trod] at h
  | succ fuel =>
    simp only [DataW.trod, ht, hce, hct, Nat.mul_one] at h
    split at h
    · rename_i hl
      obtain ⟨xs, hm, hx⟩ := Option.map_eq_some_iff.1 h
      have hxs : xs.map (·.1) = zs.map fun z => (DataW.lit (.string z.data.toList) : DataW H) := by
        have := congrArg Prod.fst hx
        simpa using this
      have hxl : xs.length = n := by simpa using Lib.mapM_length hm
      have hzl : zs.length = n := by
        have := congrArg List.length hxs
        simp at this
        omega
      apply List.ext_getElem?
      intro i
      by_cases hi : i < n
      · obtain ⟨b, hb, hf⟩ := Lib.mapM_at hm i i (by simp [hi])
        obtain ⟨z, hc, rfl, _⟩ := DataW.trod_string he hf
        have h1 : cs[i]? = some (.string z) := by
          have := congrArg (·[0]?) hc
          simpa [List.getElem?_take, List.getElem?_drop] using this
        have h2 : (xs.map (·.1))[i]? = some (DataW.lit (.string z.data.toList) : DataW H) := by simp [hb]
        rw [hxs] at h2
        simp only [List.getElem?_map, Option.map_eq_some_iff, DataW.lit.injEq, Lit.string.injEq] at h2
        obtain ⟨z', hz', he'⟩ := h2
        have : z' = z := by cases z'; cases z; simp only [ByteArray.mk.injEq]; exact Array.toList_inj.1 he'
        subst this
        simp [h1, hz']
      · rw [List.getElem?_eq_none (by omega), List.getElem?_eq_none (by simp; omega)]
    · cases h
theorem TabW.of_laid {W : World} (h : laidMetH Tryd.prog [("boarder/key.digits", Rows.laid_boarder_key_digits), ("boarder/ltext.states", Rows.laid_boarder_ltext_states)] W) : TabW W := by
  have hd : Lib.TabIs Tryd.prog W "boarder/key.digits" .u8 tab1 := Lib.tabIs_of_head (rest := [("boarder/ltext.states", Rows.laid_boarder_ltext_states)]) gTab gTabType Tryd.underlying102 Tryd.underlying5 cellsU8 cellsTab h
  have h0 : laidMet Tryd.prog [("boarder/key.digits", Rows.laid_boarder_key_digits), ("boarder/ltext.states", Rows.laid_boarder_ltext_states)] W := h
  obtain ⟨ps, ⟨g', t', cs, fuel, p, q, hg', ht', hvar, htr, ⟨g2, t2, cs2, fuel2, p2, q2, hg2, ht2, hvar2, htr2, _, _⟩, _⟩, _⟩ := h0
  obtain rfl := Option.some.inj (gStates.symm.trans hg2)
  obtain rfl := Option.some.inj (gStatesType.symm.trans ht2)
  have hcs := cells_of_strs (zs := tab0) Tryd.underlying60 Tryd.underlying9 cellsStr cellsStates htr2
  refine ⟨Kd.C_of_reads (d := (0 : Int)) ⟨rfl, by decide, fun _ => ⟨_, rfl, fun j hj => ?_⟩⟩, Kd.C_of_reads (d := ByteArray.empty) ⟨rfl, by decide, fun _ => ⟨_, rfl, fun j hj => ?_⟩⟩⟩
  · rw [add_plain]
    exact hd.cell gTab j hj
  · rw [add_plain]
    have hc2 : cs2 = ((tab0).map fun z => Value.string z).toArray := Array.toList_inj.1 (by rw [hcs])
    subst hc2
    have := World.var?_cell gStates hvar2 j
    have hj' : j < (tab0).length := hj
    simpa [List.getD, hj'] using this
/-- A table's text, read outright. -/
theorem string_at_lit {w : World} {g n : Nat} {xs : List ByteArray} (h : Kd.C Kd.string w (some ⟨g, 0, none⟩) n xs) (j : Nat) (hj : j < n) : w.cell? ⟨g, j, none⟩ = some (.string (rdOf ByteArray.empty xs j)) := by
  obtain ⟨ad, e, hx⟩ := Kd.at_string h (j : Int) (by omega) (by omega)
  injection e with e
  subst e
  rw [add_plain] at hx
  exact hx
theorem string_at_0_0 {w : World} (h : Kd.C Kd.string w (some ⟨0, 0, none⟩) 3 tab0) : w.cell? ⟨0, 0, none⟩ = some (.string ⟨#[98, 111, 117, 110, 100]⟩) := (string_at_lit h 0 (by decide)).trans rfl
theorem string_at_0_1 {w : World} (h : Kd.C Kd.string w (some ⟨0, 0, none⟩) 3 tab0) : w.cell? ⟨0, 1, none⟩ = some (.string ⟨#[114, 101, 108, 101, 97, 115, 101, 100]⟩) := (string_at_lit h 1 (by decide)).trans rfl
theorem string_at_0_2 {w : World} (h : Kd.C Kd.string w (some ⟨0, 0, none⟩) 3 tab0) : w.cell? ⟨0, 2, none⟩ = some (.string ⟨#[100, 101, 99, 108, 105, 110, 101, 100]⟩) := (string_at_lit h 2 (by decide)).trans rfl
theorem arr_run0 (W : World) : (Instr.index 60 (.agg #[.string ⟨#[98, 111, 117, 110, 100]⟩, .string ⟨#[114, 101, 108, 101, 97, 115, 101, 100]⟩, .string ⟨#[100, 101, 99, 108, 105, 110, 101, 100]⟩]) (.int .i64 0)).run Tryd.prog W = .ok (.string (rdOf ByteArray.empty tab0 0)) W := by kernel_rfl
theorem arr_run1 (W : World) : (Instr.index 60 (.agg #[.string ⟨#[98, 111, 117, 110, 100]⟩, .string ⟨#[114, 101, 108, 101, 97, 115, 101, 100]⟩, .string ⟨#[100, 101, 99, 108, 105, 110, 101, 100]⟩]) (.int .i64 1)).run Tryd.prog W = .ok (.string (rdOf ByteArray.empty tab0 1)) W := by kernel_rfl
theorem arr_run2 (W : World) : (Instr.index 60 (.agg #[.string ⟨#[98, 111, 117, 110, 100]⟩, .string ⟨#[114, 101, 108, 101, 97, 115, 101, 100]⟩, .string ⟨#[100, 101, 99, 108, 105, 110, 101, 100]⟩]) (.int .i64 2)).run Tryd.prog W = .ok (.string (rdOf ByteArray.empty tab0 2)) W := by kernel_rfl
theorem arr_run_0 (j : Int) (h0 : 0 ≤ j) (h3 : j < 3) : ∀ W : World, (Instr.index 60 (.agg #[.string ⟨#[98, 111, 117, 110, 100]⟩, .string ⟨#[114, 101, 108, 101, 97, 115, 101, 100]⟩, .string ⟨#[100, 101, 99, 108, 105, 110, 101, 100]⟩]) (.int .i64 j)).run Tryd.prog W = .ok (.string (rdOf ByteArray.empty tab0 j)) W := by
  obtain rfl | rfl | rfl : j = 0 ∨ j = 1 ∨ j = 2 := by omega
  · exact arr_run0
  · exact arr_run1
  · exact arr_run2
end Go.Proofs.YtdajdpgnhjlbaaaDoor.PLease
