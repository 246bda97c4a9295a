/- What the given program's functions come to, each a Lean function and the walk that shows it: no condition beside those that each theorem names. -/
import Derived.Test.YtcjngbpmdmfbdaaProg
import Derived.Below
import Derived.Deep.Draws
import Derived.Deep.AppendLies
import Derived.Maps.AppendAt
import Derived.OwnWalk
import Derived.Laws.BytesArg
import Derived.Laws.MakeOwn
import Derived.Laws.OwnMore
import Derived.Deep.OwnRows
import Derived.Tactics
import Derived.Lib.ConvBytes
import Derived.Laws.Slices
import Derived.WalkKit
import Derived.KernelRfl
import Derived.RowKit3
import Derived.Deep.LoopGhost
import Derived.Deep.QuietTactic
import Derived.BigQuiet
import Derived.WideLaws
import Derived.Deep.DeepCutAuto
import Derived.Deep.CutBlock
import Derived.Deep.RegionHeld3
import Derived.Laws.Rows
import Derived.Lib.AppendStr
import Derived.ArgAppend
import Derived.Laws.IdiomCopy
import Derived.OrdersHeld
import Derived.Laws.BitsLemmas
import Derived.RowKit
import Derived.Test.YtcjngbpmdmfbdaaWWords
import Derived.Test.YtcjngbpmdmfbdaaWLast
import Derived.Test.YtcjngbpmdmfbdaaWTab
import Derived.Test.YtcjngbpmdmfbdaaWFour
import Derived.Test.YtcjngbpmdmfbdaaWQPut
import Derived.Test.YtcjngbpmdmfbdaaWApart
import Derived.Test.YtcjngbpmdmfbdaaWArr
import Derived.Test.YtcjngbpmdmfbdaaWZeros
import Derived.Test.YtcjngbpmdmfbdaaWFoot
import Derived.Test.YtcjngbpmdmfbdaaWKept
import Derived.Test.YtcjngbpmdmfbdaaWShare
import Derived.Test.YtcjngbpmdmfbdaaWN
import Derived.Test.YtcjngbpmdmfbdaaWFootNe
import Derived.Test.YtcjngbpmdmfbdaaWAt
import Derived.Test.YtcjngbpmdmfbdaaWEqStruct
import Derived.Test.YtcjngbpmdmfbdaaWRepsOne
import Derived.Test.YtcjngbpmdmfbdaaWInv
import Derived.Test.YtcjngbpmdmfbdaaWInvWords
import Derived.Test.YtcjngbpmdmfbdaaWGuard
import Derived.Test.YtcjngbpmdmfbdaaWNEv
import Derived.Test.YtcjngbpmdmfbdaaWMore
namespace Go.Proofs.Ytcjngbpmdmfbdaa.PBandFew
open Go.RowKit Go.Proofs.YtcjngbpmdmfbdaaW.PrintWords Go.Proofs.YtcjngbpmdmfbdaaW.PrintLast Go.Proofs.YtcjngbpmdmfbdaaW.PrintMore
attribute [local go_sem] max2_int min2_int max_two min_two max_three min_three max_four min_four   -- for this text's walks alone
set_option linter.unusedVariables false
set_option linter.unusedSimpArgs false



def errW : Option Int → Value
  | none => .nilIface
  | some c => .iface 0 (.int .i64 c)
theorem errW_none : errW none = .nilIface := rfl
theorem errW_some (c : Int) : errW (some c) = .iface 0 (.int .i64 c) := rfl

theorem info3 : (Try.prog.info? 3).map (fun i => (i.zero, i.size, i.bytes)) = some (some (.int .i64 0), 1, 8) := by kernel_rfl
-- the values' own types

end Go.Proofs.Ytcjngbpmdmfbdaa.PBandFew
