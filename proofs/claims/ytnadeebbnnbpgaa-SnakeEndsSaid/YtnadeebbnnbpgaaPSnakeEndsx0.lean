/- What the given program's functions come to, each a Lean function and the walk that shows it: no condition beside those that each theorem names. -/
import Derived.Test.YtnadeebbnnbpgaaProg
import Derived.Below
import Derived.Deep.Draws
import Derived.Deep.AppendLies
import Derived.Maps.AppendAt
import Derived.OwnWalk
import Derived.Laws.BytesArg
import Derived.Laws.MakeOwn
import Derived.Laws.OwnMore
import Derived.Deep.OwnRows
import Derived.Tactics
import Derived.Lib.ConvBytes
import Derived.Laws.Slices
import Derived.WalkKit
import Derived.KernelRfl
import Derived.RowKit3
import Derived.Deep.LoopGhost
import Derived.Deep.QuietTactic
import Derived.BigQuiet
import Derived.WideLaws
import Derived.Deep.DeepCutAuto
import Derived.Deep.CutBlock
import Derived.Deep.RegionHeld3
import Derived.Laws.Rows
import Derived.Lib.AppendStr
import Derived.ArgAppend
import Derived.Laws.IdiomCopy
import Derived.OrdersHeld
import Derived.Laws.BitsLemmas
import Derived.RowKit
import Derived.Test.YtnadeebbnnbpgaaWWords
import Derived.Test.YtnadeebbnnbpgaaWLast
import Derived.Test.YtnadeebbnnbpgaaWTab
import Derived.Test.YtnadeebbnnbpgaaWFour
import Derived.Test.YtnadeebbnnbpgaaWQPut
import Derived.Test.YtnadeebbnnbpgaaWApart
import Derived.Test.YtnadeebbnnbpgaaWArr
import Derived.Test.YtnadeebbnnbpgaaWZeros
import Derived.Test.YtnadeebbnnbpgaaWFoot
import Derived.Test.YtnadeebbnnbpgaaWKept
import Derived.Test.YtnadeebbnnbpgaaWShare
import Derived.Test.YtnadeebbnnbpgaaWN
import Derived.Test.YtnadeebbnnbpgaaWFootNe
import Derived.Test.YtnadeebbnnbpgaaWAt
import Derived.Test.YtnadeebbnnbpgaaWEqStruct
import Derived.Test.YtnadeebbnnbpgaaWRepsOne
import Derived.Test.YtnadeebbnnbpgaaWInv
import Derived.Test.YtnadeebbnnbpgaaWInvWords
import Derived.Test.YtnadeebbnnbpgaaWGuard
import Derived.Test.YtnadeebbnnbpgaaWNEv
import Derived.Test.YtnadeebbnnbpgaaWMore
namespace Go.Proofs.Ytnadeebbnnbpgaa.PSnakeEnds
open Go.RowKit Go.Proofs.YtnadeebbnnbpgaaW.PrintWords Go.Proofs.YtnadeebbnnbpgaaW.PrintLast Go.Proofs.YtnadeebbnnbpgaaW.PrintMore
attribute [local go_sem] max2_int min2_int max_two min_two max_three min_three max_four min_four   -- for this text's walks alone
set_option linter.unusedVariables false
set_option linter.unusedSimpArgs false



def errW : Option Int → Value
 | none => .nilIface
 | some c => .iface 0 (.int .i64 c)
theorem errW_none : errW none = .nilIface := rfl
theorem errW_some (c : Int) : errW (some c) = .iface 0 (.int .i64 c) := rfl

theorem info3 : (Try.prog.info? 3).map (fun i => (i.zero, i.size, i.bytes)) = some (some (.int .i64 0), 1, 8) := by kernel_rfl
-- the values' own types

abbrev sA := @List.setIfInBounds_toArray
abbrev sB := @List.set_cons_zero
abbrev sC := @List.set_cons_succ
abbrev Y := true
abbrev N := false
end Go.Proofs.Ytnadeebbnnbpgaa.PSnakeEnds
