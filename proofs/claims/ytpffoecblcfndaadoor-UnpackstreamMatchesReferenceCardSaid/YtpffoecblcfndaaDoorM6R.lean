/- The packed encoding as plain lists: packing words, decoding bytes, and that decoding a packed form gives the words back; no program in sight. -/
import Derived.Test.YtpffoecblcfndaaDoorM4R
namespace Go.Proofs.YtpffoecblcfndaaDoor.M
open Go Go.RowKit Go.Proofs.YtpffoecblcfndaaDoorW.PrintWords Go.Proofs.YtpffoecblcfndaaDoorW.PrintLast Go.Proofs.YtpffoecblcfndaaDoorW.PrintMore
set_option linter.unusedVariables false
set_option linter.unusedSimpArgs false
theorem onesS_255 : onesS 255 = 8 := by decide
end Go.Proofs.YtpffoecblcfndaaDoor.M
