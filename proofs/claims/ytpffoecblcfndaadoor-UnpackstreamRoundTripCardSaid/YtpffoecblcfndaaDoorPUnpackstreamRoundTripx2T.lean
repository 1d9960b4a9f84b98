/- Written by myprint.py, a program of this session: printed functions of a law, and the proofs that the Go code comes to them. -/
import Derived.Test.YtpffoecblcfndaaDoorPVaBasex2T
import Derived.Test.YtpffoecblcfndaaDoorPUnpackstreamRoundTripx0T
import Derived.Test.YtpffoecblcfndaaDoorPUnpackstreamRoundTripx1T
namespace Go.Proofs.YtpffoecblcfndaaDoor.PUnpackstreamRoundTrip
open Go.RowKit Go.Proofs.YtpffoecblcfndaaDoorW.PrintWords Go.Proofs.YtpffoecblcfndaaDoorW.PrintLast Go.Proofs.YtpffoecblcfndaaDoorW.PrintMore
attribute [local go_sem] max2_int min2_int max_two min_two max_three min_three max_four min_four   -- for this text's walks alone
set_option linter.unusedVariables false
set_option linter.unusedSimpArgs false
/-! ### unpackstream_Valid: function 11 -/
abbrev unpackstream_Valid.f := @Go.Proofs.YtpffoecblcfndaaDoor.PVaBase.unpackstream_Valid.f
abbrev unpackstream_Valid.calls := @Go.Proofs.YtpffoecblcfndaaDoor.PVaBase.unpackstream_Valid.calls
abbrev unpackstream_Valid.mono := @Go.Proofs.YtpffoecblcfndaaDoor.PVaBase.unpackstream_Valid.mono
abbrev unpackstream_Valid.mono_l := @Go.Proofs.YtpffoecblcfndaaDoor.PVaBase.unpackstream_Valid.mono_l
end Go.Proofs.YtpffoecblcfndaaDoor.PUnpackstreamRoundTrip
