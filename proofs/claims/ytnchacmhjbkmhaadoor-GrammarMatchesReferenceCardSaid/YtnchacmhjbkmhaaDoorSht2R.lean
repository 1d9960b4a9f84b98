/- Shortest over concatenations; no packing is shorter. -/
import Derived.Test.YtnchacmhjbkmhaaDoorShtR
namespace Go.Proofs.YtnchacmhjbkmhaaDoor.UnShortest
open Go Go.RowKit Go.Proofs.YtnchacmhjbkmhaaDoor.M Go.Proofs.YtnchacmhjbkmhaaDoor.Un Go.Proofs.YtnchacmhjbkmhaaDoorW.PrintWords Go.Proofs.YtnchacmhjbkmhaaDoorW.PrintLast Go.Proofs.YtnchacmhjbkmhaaDoorW.PrintMore
set_option linter.unusedVariables false
set_option linter.unusedSimpArgs false
set_option maxRecDepth 10000
theorem ones_pos : ∀ n : Fin 256, n.val ≠ 0 → 0 < onesS ((n.val : Nat) : Int) := by decide +kernel
end Go.Proofs.YtnchacmhjbkmhaaDoor.UnShortest
