/- Written by myprint.py, a program of this session: printed functions, and the proofs that the Go code comes to them. -/
import Derived.Test.YtcdkgccmmfjnhaaDoorProg
import Derived.Below
import Derived.Deep.Draws
import Derived.Deep.AppendLies
import Derived.Maps.AppendAt
import Derived.OwnWalk
import Derived.Laws.BytesArg
import Derived.Laws.MakeOwn
import Derived.Laws.OwnMore
import Derived.Deep.OwnRows
import Derived.Tactics
import Derived.Lib.ConvBytes
import Derived.Laws.Slices
import Derived.WalkKit
import Derived.KernelRfl
import Derived.RowKit3
import Derived.Deep.LoopGhost
import Derived.Deep.QuietTactic
import Derived.BigQuiet
import Derived.WideLaws
import Derived.Deep.DeepCutAuto
import Derived.Deep.CutBlock
import Derived.Deep.RegionHeld3
import Derived.Laws.Rows
import Derived.Lib.AppendStr
import Derived.ArgAppend
import Derived.Laws.IdiomCopy
import Derived.OrdersHeld
import Derived.Laws.BitsLemmas
import Derived.RowKit
import Derived.Test.YtcdkgccmmfjnhaaDoorXCap
import Derived.WalkMore
import Derived.Test.YtcdkgccmmfjnhaaDoorWWords
import Derived.Test.YtcdkgccmmfjnhaaDoorWLast
import Derived.Test.YtcdkgccmmfjnhaaDoorWTab
import Derived.Test.YtcdkgccmmfjnhaaDoorWFour
import Derived.Test.YtcdkgccmmfjnhaaDoorWQPut
import Derived.Test.YtcdkgccmmfjnhaaDoorWApart
import Derived.Test.YtcdkgccmmfjnhaaDoorWArr
import Derived.Test.YtcdkgccmmfjnhaaDoorWZeros
import Derived.Test.YtcdkgccmmfjnhaaDoorWFoot
import Derived.Test.YtcdkgccmmfjnhaaDoorWKept
import Derived.Test.YtcdkgccmmfjnhaaDoorWShare
import Derived.Test.YtcdkgccmmfjnhaaDoorWN
import Derived.Test.YtcdkgccmmfjnhaaDoorWFootNe
import Derived.Test.YtcdkgccmmfjnhaaDoorWAt
import Derived.Test.YtcdkgccmmfjnhaaDoorWEqStruct
import Derived.Test.YtcdkgccmmfjnhaaDoorWRepsOne
import Derived.Test.YtcdkgccmmfjnhaaDoorWInv
import Derived.Test.YtcdkgccmmfjnhaaDoorWInvWords
import Derived.Test.YtcdkgccmmfjnhaaDoorWGuard
import Derived.Test.YtcdkgccmmfjnhaaDoorWNEv
import Derived.Test.YtcdkgccmmfjnhaaDoorWMore
namespace Go.Proofs.YtcdkgccmmfjnhaaDoor.PUnBase
open Go.RowKit Go.Proofs.YtcdkgccmmfjnhaaDoorW.PrintWords Go.Proofs.YtcdkgccmmfjnhaaDoorW.PrintLast Go.Proofs.YtcdkgccmmfjnhaaDoorW.PrintMore
attribute [local go_sem] max2_int min2_int max_two min_two max_three min_three max_four min_four   -- for this text's walks alone
set_option linter.unusedVariables false
set_option linter.unusedSimpArgs false



def errW : Option Int → Value
  | none => .nilIface
  | some c => .iface 0 (.int .i64 c)
theorem errW_none : errW none = .nilIface := rfl
theorem errW_some (c : Int) : errW (some c) = .iface 0 (.int .i64 c) := rfl

theorem info5 : (Tryd.prog.info? 5).map (fun i => (i.zero, i.size, i.bytes)) = some (some (.int .u8 0), 1, 1) := by kernel_rfl
-- the values' own types

end Go.Proofs.YtcdkgccmmfjnhaaDoor.PUnBase
