/- Plain facts on bit fields of words; no program in sight. -/
import Derived.Test.YtpffoecblcfndaaDoorM2R
namespace Go.Proofs.YtpffoecblcfndaaDoor.M
open Go Go.RowKit Go.Proofs.YtpffoecblcfndaaDoorW.PrintWords Go.Proofs.YtpffoecblcfndaaDoorW.PrintLast Go.Proofs.YtpffoecblcfndaaDoorW.PrintMore
set_option linter.unusedVariables false
set_option linter.unusedSimpArgs false
def insB (W at_ n V i : Nat) : Bool := if at_ ≤ i ∧ i < at_ + n then V.testBit (i - at_) else W.testBit i
theorem mask_eq : ∀ n, n ≤ 64 → 18446744073709551615 >>> (64 - n) = 2 ^ n - 1 := by decide
theorem two_pow_le64 {n : Nat} (h : n ≤ 64) : 2 ^ n ≤ 18446744073709551616 := by
  have : 2 ^ n ≤ 2 ^ 64 := Nat.pow_le_pow_right (by decide) h
  exact this
theorem wrap_succ (i : Nat) (h : i ≤ 140737488355328) : wrap64 ((i : Int) + 1) = ((i + 1 : Nat) : Int) := by rw [w64 (by omega) (by omega)]; omega
end Go.Proofs.YtpffoecblcfndaaDoor.M
