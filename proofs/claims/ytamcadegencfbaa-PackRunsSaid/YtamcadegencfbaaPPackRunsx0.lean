/- Written by myprint.py, a program of this session: printed functions of a law, and the proofs that the Go code comes to them. -/
import Derived.Test.YtamcadegencfbaaProg
import Derived.Below
import Derived.Deep.Draws
import Derived.Deep.AppendLies
import Derived.Maps.AppendAt
import Derived.OwnWalk
import Derived.Laws.BytesArg
import Derived.Laws.MakeOwn
import Derived.Laws.OwnMore
import Derived.Deep.OwnRows
import Derived.Tactics
import Derived.Lib.ConvBytes
import Derived.Laws.Slices
import Derived.WalkKit
import Derived.KernelRfl
import Derived.RowKit3
import Derived.Deep.LoopGhost
import Derived.Deep.QuietTactic
import Derived.BigQuiet
import Derived.WideLaws
import Derived.Deep.DeepCutAuto
import Derived.Deep.CutBlock
import Derived.Deep.RegionHeld3
import Derived.Laws.Rows
import Derived.Lib.AppendStr
import Derived.ArgAppend
import Derived.Laws.IdiomCopy
import Derived.OrdersHeld
import Derived.Laws.BitsLemmas
import Derived.RowKit
import Derived.Test.YtamcadegencfbaaXCap
import Derived.WalkMore
import Derived.Test.YtamcadegencfbaaWWords
import Derived.Test.YtamcadegencfbaaWLast
import Derived.Test.YtamcadegencfbaaWTab
import Derived.Test.YtamcadegencfbaaWFour
import Derived.Test.YtamcadegencfbaaWQPut
import Derived.Test.YtamcadegencfbaaWApart
import Derived.Test.YtamcadegencfbaaWArr
import Derived.Test.YtamcadegencfbaaWZeros
import Derived.Test.YtamcadegencfbaaWFoot
import Derived.Test.YtamcadegencfbaaWKept
import Derived.Test.YtamcadegencfbaaWShare
import Derived.Test.YtamcadegencfbaaWN
import Derived.Test.YtamcadegencfbaaWFootNe
import Derived.Test.YtamcadegencfbaaWAt
import Derived.Test.YtamcadegencfbaaWEqStruct
import Derived.Test.YtamcadegencfbaaWRepsOne
import Derived.Test.YtamcadegencfbaaWInv
import Derived.Test.YtamcadegencfbaaWInvWords
import Derived.Test.YtamcadegencfbaaWGuard
import Derived.Test.YtamcadegencfbaaWNEv
import Derived.Test.YtamcadegencfbaaWMore
namespace Go.Proofs.Ytamcadegencfbaa.PPackRuns
open Go.RowKit Go.Proofs.YtamcadegencfbaaW.PrintWords Go.Proofs.YtamcadegencfbaaW.PrintLast Go.Proofs.YtamcadegencfbaaW.PrintMore
attribute [local go_sem] max2_int min2_int max_two min_two max_three min_three max_four min_four   -- for this text's walks alone
set_option linter.unusedVariables false
set_option linter.unusedSimpArgs false



def errW : Option Int → Value
  | none => .nilIface
  | some c => .iface 0 (.int .i64 c)
theorem errW_none : errW none = .nilIface := rfl
theorem errW_some (c : Int) : errW (some c) = .iface 0 (.int .i64 c) := rfl

theorem info5 : (Try.prog.info? 5).map (fun i => (i.zero, i.size, i.bytes)) = some (some (.int .u8 0), 1, 1) := by kernel_rfl
theorem info22 : (Try.prog.info? 22).map (fun i => (i.zero, i.size, i.bytes)) = some (some (.int .u64 0), 1, 8) := by kernel_rfl
-- the values' own types

end Go.Proofs.Ytamcadegencfbaa.PPackRuns
