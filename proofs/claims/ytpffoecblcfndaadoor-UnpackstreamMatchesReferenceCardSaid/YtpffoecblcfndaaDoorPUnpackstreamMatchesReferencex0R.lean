/- Printed functions of a law, and their walks. -/
import Derived.Test.YtpffoecblcfndaaDoorXShortR
import Derived.Laws.StructEq
import Derived.Test.YtpffoecblcfndaaDoorProg
import Derived.Below
import Derived.Deep.Draws
import Derived.Deep.AppendLies
import Derived.Maps.AppendAt
import Derived.OwnWalk
import Derived.Laws.BytesArg
import Derived.Laws.MakeOwn
import Derived.Laws.OwnMore
import Derived.Deep.OwnRows
import Derived.Tactics
import Derived.Lib.ConvBytes
import Derived.Laws.Slices
import Derived.WalkKit
import Derived.KernelRfl
import Derived.RowKit3
import Derived.Deep.LoopGhost
import Derived.Deep.QuietTactic
import Derived.BigQuiet
import Derived.WideLaws
import Derived.Deep.DeepCutAuto
import Derived.Deep.CutBlock
import Derived.Deep.RegionHeld3
import Derived.Laws.Rows
import Derived.Lib.AppendStr
import Derived.ArgAppend
import Derived.Laws.IdiomCopy
import Derived.OrdersHeld
import Derived.Laws.BitsLemmas
import Derived.RowKit
import Derived.Test.YtpffoecblcfndaaDoorXCapR
import Derived.WalkMore
import Derived.Test.YtpffoecblcfndaaDoorRdr6R
import Derived.Test.YtpffoecblcfndaaDoorWWordsR
import Derived.Test.YtpffoecblcfndaaDoorWLastR
import Derived.Test.YtpffoecblcfndaaDoorWTabR
import Derived.Test.YtpffoecblcfndaaDoorWApartR
import Derived.Test.YtpffoecblcfndaaDoorWFootR
import Derived.Test.YtpffoecblcfndaaDoorWKeptR
import Derived.Test.YtpffoecblcfndaaDoorWShareR
import Derived.Test.YtpffoecblcfndaaDoorWNR
import Derived.Test.YtpffoecblcfndaaDoorWRepsOneR
import Derived.Test.YtpffoecblcfndaaDoorWGuardR
import Derived.Test.YtpffoecblcfndaaDoorWMoreR
namespace Go.Proofs.YtpffoecblcfndaaDoor.PUnpackstreamMatchesReference
open Go.RowKit Go.Proofs.YtpffoecblcfndaaDoorW.PrintWords Go.Proofs.YtpffoecblcfndaaDoorW.PrintLast Go.Proofs.YtpffoecblcfndaaDoorW.PrintMore
open Go.Proofs.YtpffoecblcfndaaDoor.PVaBase
attribute [local go_sem] max2_int min2_int max_two min_two max_three min_three max_four min_four   -- for this text's walks alone
set_option linter.unusedVariables false
set_option linter.unusedSimpArgs false
def errW : Option Int → Value
  | none => .nilIface
  | some c => .iface 0 (.int .i64 c)
theorem errW_none : errW none = .nilIface := rfl
theorem errW_some (c : Int) : errW (some c) = .iface 0 (.int .i64 c) := rfl
theorem info5 : (Tryd.prog.info? 5).map (fun i => (i.zero, i.size, i.bytes)) = some (some (.int .u8 0), 1, 1) := by kernel_rfl
structure S25 where
  f0 : Int
  f1 : Int
  f2 : (List Int)
  f3 : Int
  f4 : Int
  f5 : Int
end Go.Proofs.YtpffoecblcfndaaDoor.PUnpackstreamMatchesReference
