/- Tags that cover a tag: how many, and their ones; Ways as a sum. -/
import Derived.Test.YtnchacmhjbkmhaaDoorGram5WC
import Derived.Test.YtnchacmhjbkmhaaDoorM6C
import Derived.Test.YtnchacmhjbkmhaaDoorGram5SC
import Derived.Test.YtnchacmhjbkmhaaDoorGrp2C
namespace Go.Proofs.YtnchacmhjbkmhaaDoor.Un
open Go Go.RowKit Go.Proofs.YtnchacmhjbkmhaaDoor.M Go.Proofs.YtnchacmhjbkmhaaDoorW.PrintWords Go.Proofs.YtnchacmhjbkmhaaDoorW.PrintLast Go.Proofs.YtnchacmhjbkmhaaDoorW.PrintMore
set_option linter.unusedVariables false
set_option linter.unusedSimpArgs false
set_option maxRecDepth 10000
def covF : Nat → Int → Int → Bool
  | 0, _, _ => true
  | d + 1, a, b => if b % 2 = 1 then (if a % 2 = 0 then false else covF d (a / 2) (b / 2)) else covF d (a / 2) (b / 2)
end Go.Proofs.YtnchacmhjbkmhaaDoor.Un
