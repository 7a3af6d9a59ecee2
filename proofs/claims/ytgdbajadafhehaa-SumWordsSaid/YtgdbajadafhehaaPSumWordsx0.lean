-- PRINTED BY print.sh 35421559b90ae4d0a3588c463048766b98c2df88dd9212a6774a882060cdf62d: not written by this session
import Derived.Test.YtgdbajadafhehaaProg
import Derived.Below
import Derived.Deep.Draws
import Derived.Deep.AppendLies
import Derived.Maps.AppendAt
import Derived.OwnWalk
import Derived.Laws.BytesArg
import Derived.Laws.MakeOwn
import Derived.Laws.OwnMore
import Derived.Deep.OwnRows
import Derived.Tactics
import Derived.Lib.ConvBytes
import Derived.Laws.Slices
import Derived.WalkKit
import Derived.KernelRfl
import Derived.RowKit3
import Derived.Deep.LoopGhost
import Derived.Deep.QuietTactic
import Derived.BigQuiet
import Derived.WideLaws
import Derived.Deep.DeepCutAuto
import Derived.Deep.CutBlock
import Derived.Deep.RegionHeld3
import Derived.Laws.Rows
import Derived.Lib.AppendStr
import Derived.ArgAppend
import Derived.Laws.IdiomCopy
import Derived.OrdersHeld
import Derived.Laws.BitsLemmas
import Derived.RowKit
import Derived.Test.YtgdbajadafhehaaWWords
import Derived.Test.YtgdbajadafhehaaWLast
import Derived.Test.YtgdbajadafhehaaWTab
import Derived.Test.YtgdbajadafhehaaWFour
import Derived.Test.YtgdbajadafhehaaWQPut
import Derived.Test.YtgdbajadafhehaaWApart
import Derived.Test.YtgdbajadafhehaaWArr
import Derived.Test.YtgdbajadafhehaaWZeros
import Derived.Test.YtgdbajadafhehaaWFoot
import Derived.Test.YtgdbajadafhehaaWKept
import Derived.Test.YtgdbajadafhehaaWShare
import Derived.Test.YtgdbajadafhehaaWN
import Derived.Test.YtgdbajadafhehaaWFootNe
import Derived.Test.YtgdbajadafhehaaWAt
import Derived.Test.YtgdbajadafhehaaWEqStruct
import Derived.Test.YtgdbajadafhehaaWRepsOne
import Derived.Test.YtgdbajadafhehaaWInv
import Derived.Test.YtgdbajadafhehaaWInvWords
import Derived.Test.YtgdbajadafhehaaWGuard
import Derived.Test.YtgdbajadafhehaaWNEv
import Derived.Test.YtgdbajadafhehaaWMore
namespace Go.Proofs.Ytgdbajadafhehaa.PSumWords
open Go.RowKit Go.Proofs.YtgdbajadafhehaaW.PrintWords Go.Proofs.YtgdbajadafhehaaW.PrintLast Go.Proofs.YtgdbajadafhehaaW.PrintMore
attribute [local go_sem] max2_int min2_int max_two min_two max_three min_three max_four min_four   -- for this text's walks alone
set_option linter.unusedVariables false
set_option linter.unusedSimpArgs false



def errW : Option Int → Value
  | none => .nilIface
  | some c => .iface 0 (.int .i64 c)
theorem errW_none : errW none = .nilIface := rfl
theorem errW_some (c : Int) : errW (some c) = .iface 0 (.int .i64 c) := rfl

theorem info5 : (Try.prog.info? 5).map (fun i => (i.zero, i.size, i.bytes)) = some (some (.int .u8 0), 1, 1) := by kernel_rfl
-- the values' own types

end Go.Proofs.Ytgdbajadafhehaa.PSumWords
