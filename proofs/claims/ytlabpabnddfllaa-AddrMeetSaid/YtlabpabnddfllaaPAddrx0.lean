/- Lean functions for Go functions of the given program, and proofs that the code computes them, each under its theorem's own conditions. Written by a program of this session. -/
import Derived.Test.YtlabpabnddfllaaProg
import Derived.Below
import Derived.Deep.Draws
import Derived.Deep.AppendLies
import Derived.Maps.AppendAt
import Derived.OwnWalk
import Derived.Laws.BytesArg
import Derived.Laws.MakeOwn
import Derived.Laws.OwnMore
import Derived.Deep.OwnRows
import Derived.Tactics
import Derived.Lib.ConvBytes
import Derived.Laws.Slices
import Derived.WalkKit
import Derived.KernelRfl
import Derived.RowKit3
import Derived.Deep.LoopGhost
import Derived.Deep.QuietTactic
import Derived.BigQuiet
import Derived.WideLaws
import Derived.Deep.DeepCutAuto
import Derived.Deep.CutBlock
import Derived.Deep.RegionHeld3
import Derived.Laws.Rows
import Derived.Lib.AppendStr
import Derived.ArgAppend
import Derived.Laws.IdiomCopy
import Derived.OrdersHeld
import Derived.Laws.BitsLemmas
import Derived.RowKit
import Derived.WalkMore
import Derived.Laws.RangeString
import Derived.Laws.RangeAny
import Derived.Test.YtlabpabnddfllaaAdr
import Derived.Test.YtlabpabnddfllaaWWords
import Derived.Test.YtlabpabnddfllaaWLast
import Derived.Test.YtlabpabnddfllaaWTab
import Derived.Test.YtlabpabnddfllaaWFour
import Derived.Test.YtlabpabnddfllaaWQPut
import Derived.Test.YtlabpabnddfllaaWApart
import Derived.Test.YtlabpabnddfllaaWArr
import Derived.Test.YtlabpabnddfllaaWZeros
import Derived.Test.YtlabpabnddfllaaWFoot
import Derived.Test.YtlabpabnddfllaaWKept
import Derived.Test.YtlabpabnddfllaaWShare
import Derived.Test.YtlabpabnddfllaaWN
import Derived.Test.YtlabpabnddfllaaWFootNe
import Derived.Test.YtlabpabnddfllaaWAt
import Derived.Test.YtlabpabnddfllaaWEqStruct
import Derived.Test.YtlabpabnddfllaaWRepsOne
import Derived.Test.YtlabpabnddfllaaWInv
import Derived.Test.YtlabpabnddfllaaWInvWords
import Derived.Test.YtlabpabnddfllaaWGuard
import Derived.Test.YtlabpabnddfllaaWNEv
import Derived.Test.YtlabpabnddfllaaWMore
namespace Go.Proofs.Ytlabpabnddfllaa.PAddr
open Go.RowKit Go.Proofs.YtlabpabnddfllaaW.PrintWords Go.Proofs.YtlabpabnddfllaaW.PrintLast Go.Proofs.YtlabpabnddfllaaW.PrintMore
attribute [local go_sem] max2_int min2_int max_two min_two max_three min_three max_four min_four   -- for this text's walks alone
set_option linter.unusedVariables false
set_option linter.unusedSimpArgs false



def errW : Option Int → Value
  | none => .nilIface
  | some c => .iface 0 (.int .i64 c)
theorem errW_none : errW none = .nilIface := rfl
theorem errW_some (c : Int) : errW (some c) = .iface 0 (.int .i64 c) := rfl

theorem info5 : (Try.prog.info? 5).map (fun i => (i.zero, i.size, i.bytes)) = some (some (.int .u8 0), 1, 1) := by kernel_rfl
-- the values' own types

end Go.Proofs.Ytlabpabnddfllaa.PAddr
