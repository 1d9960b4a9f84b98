/- Plain facts on bit fields of words; no program in sight. -/
import Derived.Test.YtibkbgaonjdpiaaM2S
namespace Go.Proofs.Ytibkbgaonjdpiaa.M
open Go Go.RowKit Go.Proofs.YtibkbgaonjdpiaaW.PrintWords Go.Proofs.YtibkbgaonjdpiaaW.PrintLast Go.Proofs.YtibkbgaonjdpiaaW.PrintMore
set_option linter.unusedVariables false
set_option linter.unusedSimpArgs false
theorem wrap_succ (i : Nat) (h : i ≤ 140737488355328) : wrap64 ((i : Int) + 1) = ((i + 1 : Nat) : Int) := by rw [w64 (by omega) (by omega)]; omega
end Go.Proofs.Ytibkbgaonjdpiaa.M
