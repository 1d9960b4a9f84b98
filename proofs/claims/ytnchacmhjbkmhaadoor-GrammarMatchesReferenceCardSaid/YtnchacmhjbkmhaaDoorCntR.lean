/- Tags that cover a tag: how many, and their ones; Ways as a sum. -/
import Derived.Test.YtnchacmhjbkmhaaDoorGram6WR
import Derived.Test.YtnchacmhjbkmhaaDoorShtR
namespace Go.Proofs.YtnchacmhjbkmhaaDoor.Un
open Go Go.RowKit Go.Proofs.YtnchacmhjbkmhaaDoor.M Go.Proofs.YtnchacmhjbkmhaaDoorW.PrintWords Go.Proofs.YtnchacmhjbkmhaaDoorW.PrintLast Go.Proofs.YtnchacmhjbkmhaaDoorW.PrintMore
set_option linter.unusedVariables false
set_option linter.unusedSimpArgs false
set_option maxRecDepth 10000
def covF : Nat → Int → Int → Bool
  | 0, _, _ => true
  | d + 1, a, b => if b % 2 = 1 then (if a % 2 = 0 then false else covF d (a / 2) (b / 2)) else covF d (a / 2) (b / 2)
def cntF (t : Int) : Nat → Int → Int
  | 0, _ => 0
  | d + 1, a => (if covF 8 a t = true then 1 else 0) + cntF t d (a + 1)
def manyS (vs : List (Int × Nat × Int)) : Int := (vs.map (fun v => v.2.2)).sum
theorem count_tags : ∀ t : Fin 256, manyS (vis1 (onesS ((t.val : Nat) : Int)) (8 - onesS ((t.val : Nat) : Int)) 0 1) = cntF ((t.val : Nat) : Int) 254 1 := by decide +kernel
theorem cov_ones : ∀ (t a : Fin 256), covF 8 ((a.val : Nat) : Int) ((t.val : Nat) : Int) = true → onesS ((t.val : Nat) : Int) ≤ onesS ((a.val : Nat) : Int) := by decide +kernel
theorem cov_self : ∀ t : Fin 256, covF 8 ((t.val : Nat) : Int) ((t.val : Nat) : Int) = true := by decide +kernel
theorem ones_le7 : ∀ a : Fin 256, a.val ≠ 255 → onesS ((a.val : Nat) : Int) ≤ 7 := by decide +kernel
end Go.Proofs.YtnchacmhjbkmhaaDoor.Un
