/- Written by myprint.py, a program of this session: printed functions, and the proofs that the Go code comes to them. -/
import Derived.Test.YtcdkgccmmfjnhaaProg
import Derived.Below
import Derived.Deep.Draws
import Derived.Deep.AppendLies
import Derived.Maps.AppendAt
import Derived.OwnWalk
import Derived.Laws.BytesArg
import Derived.Laws.MakeOwn
import Derived.Laws.OwnMore
import Derived.Deep.OwnRows
import Derived.Tactics
import Derived.Lib.ConvBytes
import Derived.Laws.Slices
import Derived.WalkKit
import Derived.KernelRfl
import Derived.RowKit3
import Derived.Deep.LoopGhost
import Derived.Deep.QuietTactic
import Derived.BigQuiet
import Derived.WideLaws
import Derived.Deep.DeepCutAuto
import Derived.Deep.CutBlock
import Derived.Deep.RegionHeld3
import Derived.Laws.Rows
import Derived.Lib.AppendStr
import Derived.ArgAppend
import Derived.Laws.IdiomCopy
import Derived.OrdersHeld
import Derived.Laws.BitsLemmas
import Derived.RowKit
import Derived.Test.YtcdkgccmmfjnhaaXCap
import Derived.Test.YtcdkgccmmfjnhaaWWords
import Derived.Test.YtcdkgccmmfjnhaaWLast
import Derived.Test.YtcdkgccmmfjnhaaWTab
import Derived.Test.YtcdkgccmmfjnhaaWFour
import Derived.Test.YtcdkgccmmfjnhaaWQPut
import Derived.Test.YtcdkgccmmfjnhaaWApart
import Derived.Test.YtcdkgccmmfjnhaaWArr
import Derived.Test.YtcdkgccmmfjnhaaWZeros
import Derived.Test.YtcdkgccmmfjnhaaWFoot
import Derived.Test.YtcdkgccmmfjnhaaWKept
import Derived.Test.YtcdkgccmmfjnhaaWShare
import Derived.Test.YtcdkgccmmfjnhaaWN
import Derived.Test.YtcdkgccmmfjnhaaWFootNe
import Derived.Test.YtcdkgccmmfjnhaaWAt
import Derived.Test.YtcdkgccmmfjnhaaWEqStruct
import Derived.Test.YtcdkgccmmfjnhaaWRepsOne
import Derived.Test.YtcdkgccmmfjnhaaWInv
import Derived.Test.YtcdkgccmmfjnhaaWInvWords
import Derived.Test.YtcdkgccmmfjnhaaWGuard
import Derived.Test.YtcdkgccmmfjnhaaWNEv
import Derived.Test.YtcdkgccmmfjnhaaWMore
namespace Go.Proofs.Ytcdkgccmmfjnhaa.PFrBase
open Go.RowKit Go.Proofs.YtcdkgccmmfjnhaaW.PrintWords Go.Proofs.YtcdkgccmmfjnhaaW.PrintLast Go.Proofs.YtcdkgccmmfjnhaaW.PrintMore
attribute [local go_sem] max2_int min2_int max_two min_two max_three min_three max_four min_four   -- for this text's walks alone
set_option linter.unusedVariables false
set_option linter.unusedSimpArgs false



def errW : Option Int → Value
  | none => .nilIface
  | some c => .iface 0 (.int .i64 c)
theorem errW_none : errW none = .nilIface := rfl
theorem errW_some (c : Int) : errW (some c) = .iface 0 (.int .i64 c) := rfl

theorem info43 : (Try.prog.info? 43).map (fun i => (i.zero, i.size, i.bytes)) = some (some (.int .u64 0), 1, 8) := by kernel_rfl
-- the values' own types

end Go.Proofs.Ytcdkgccmmfjnhaa.PFrBase
