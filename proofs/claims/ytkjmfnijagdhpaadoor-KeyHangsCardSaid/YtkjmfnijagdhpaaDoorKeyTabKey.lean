/- The package-level tables that the laws of this group read: what a world holds of them; each under its theorem's own conditions. -/
import Derived.Test.YtkjmfnijagdhpaaDoorWMore
import Derived.Test.YtkjmfnijagdhpaaDoorCards
import Derived.Lib.LaidTab
set_option linter.unusedVariables false
namespace Go.Proofs.YtkjmfnijagdhpaaDoor.PKey
open Go.RowKit Go.Proofs.YtkjmfnijagdhpaaDoorW.PrintWords Go.Proofs.YtkjmfnijagdhpaaDoorW.PrintLast Go.Proofs.YtkjmfnijagdhpaaDoorW.PrintMore
/-- key.digits. -/
def tab0 : List Int := [48, 49, 50, 51, 52, 53, 54, 55, 56, 57, 97, 98, 99, 100, 101, 102]
/-- The tables are there. -/
structure TabW (w : World) : Prop where
  t0 : Kd.C (Kd.int .u8) w (some ⟨0, 0, none⟩) 16 tab0
theorem TabW.below {w w' : World} (h : TabW w) (hb : Below w.heap.size w w') : TabW w' := ⟨Kd.C_below h.t0 hb⟩
theorem TabW.drawn {w w' : World} (h : TabW w) (hb : Drawn0 w w') : TabW w' := h.below hb.below
theorem gTab : Tryd.prog.globalNamed "boarder/key.digits" = some 0 := by kernel_rfl
theorem gTabType : (Tryd.prog.globals[0]?).map (·.type) = some 46 := by kernel_rfl
theorem cellsTab : Tryd.prog.cellsOf 46 = 16 := by kernel_rfl
theorem cellsU8 : Tryd.prog.cellsOf 5 = 1 := by kernel_rfl
theorem TabW.of_is {W : World} (h : Lib.TabIs Tryd.prog W "boarder/key.digits" .u8 tab0) : TabW W := by
  refine ⟨Kd.C_of_reads (d := (0 : Int)) ⟨rfl, by decide, fun _ => ⟨_, rfl, fun j hj => ?_⟩⟩⟩
  rw [add_plain]
  exact h.cell gTab j hj
theorem TabW.of_laid {W : World} (h : laidMetH Tryd.prog [("boarder/key.digits", Rows.laid_boarder_key_digits)] W) : TabW W :=
  .of_is (Lib.tabIs_of_head (rest := []) gTab gTabType Tryd.underlying46 Tryd.underlying5 cellsU8 cellsTab h)
end Go.Proofs.YtkjmfnijagdhpaaDoor.PKey
