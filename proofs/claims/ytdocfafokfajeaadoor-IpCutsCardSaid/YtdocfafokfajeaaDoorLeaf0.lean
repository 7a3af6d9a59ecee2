/- What the texts of these claims share: the element type of a slice of bytes. -/
import Derived.Test.YtdocfafokfajeaaDoorProg
import Derived.Below
import Derived.Deep.Draws
import Derived.Deep.AppendLies
import Derived.Maps.AppendAt
import Derived.OwnWalk
import Derived.Laws.BytesArg
import Derived.Laws.MakeOwn
import Derived.Laws.OwnMore
import Derived.Deep.OwnRows
import Derived.Tactics
import Derived.Lib.ConvBytes
import Derived.Laws.Slices
import Derived.WalkKit
import Derived.KernelRfl
import Derived.RowKit3
import Derived.Deep.LoopGhost
import Derived.Deep.QuietTactic
import Derived.BigQuiet
import Derived.WideLaws
import Derived.Deep.DeepCutAuto
import Derived.Deep.CutBlock
import Derived.Deep.RegionHeld3
import Derived.Laws.Rows
import Derived.Lib.AppendStr
import Derived.ArgAppend
import Derived.Laws.IdiomCopy
import Derived.OrdersHeld
import Derived.Laws.BitsLemmas
import Derived.RowKit
import Derived.Test.YtdocfafokfajeaaDoorWWords
import Derived.Test.YtdocfafokfajeaaDoorWLast
import Derived.Test.YtdocfafokfajeaaDoorWTab
import Derived.Test.YtdocfafokfajeaaDoorWFour
import Derived.Test.YtdocfafokfajeaaDoorWQPut
import Derived.Test.YtdocfafokfajeaaDoorWApart
import Derived.Test.YtdocfafokfajeaaDoorWArr
import Derived.Test.YtdocfafokfajeaaDoorWZeros
import Derived.Test.YtdocfafokfajeaaDoorWFoot
import Derived.Test.YtdocfafokfajeaaDoorWKept
import Derived.Test.YtdocfafokfajeaaDoorWShare
import Derived.Test.YtdocfafokfajeaaDoorWN
import Derived.Test.YtdocfafokfajeaaDoorWFootNe
import Derived.Test.YtdocfafokfajeaaDoorWAt
import Derived.Test.YtdocfafokfajeaaDoorWEqStruct
import Derived.Test.YtdocfafokfajeaaDoorWRepsOne
import Derived.Test.YtdocfafokfajeaaDoorWInv
import Derived.Test.YtdocfafokfajeaaDoorWInvWords
import Derived.Test.YtdocfafokfajeaaDoorWGuard
import Derived.Test.YtdocfafokfajeaaDoorWNEv
import Derived.Test.YtdocfafokfajeaaDoorWMore
namespace Go.Proofs.YtdocfafokfajeaaDoor.PIp
open Go.RowKit Go.Proofs.YtdocfafokfajeaaDoorW.PrintWords Go.Proofs.YtdocfafokfajeaaDoorW.PrintLast Go.Proofs.YtdocfafokfajeaaDoorW.PrintMore
attribute [local go_sem] max2_int min2_int max_two min_two max_three min_three max_four min_four
set_option linter.unusedVariables false
set_option linter.unusedSimpArgs false

def errW : Option Int → Value
  | none => .nilIface
  | some c => .iface 0 (.int .i64 c)
theorem errW_none : errW none = .nilIface := rfl
theorem errW_some (c : Int) : errW (some c) = .iface 0 (.int .i64 c) := rfl

theorem info5 : (Tryd.prog.info? 5).map (fun i => (i.zero, i.size, i.bytes)) = some (some (.int .u8 0), 1, 1) := by kernel_rfl

end Go.Proofs.YtdocfafokfajeaaDoor.PIp
