/- Written by myprint.py, a program of this session: printed functions of a law, and the proofs that the Go code comes to them. -/
import Derived.Test.YtpffoecblcfndaaDoorPVaBasex1T
import Derived.Test.YtpffoecblcfndaaDoorPUnpackstreamRoundTripx0T
namespace Go.Proofs.YtpffoecblcfndaaDoor.PUnpackstreamRoundTrip
open Go.RowKit Go.Proofs.YtpffoecblcfndaaDoorW.PrintWords Go.Proofs.YtpffoecblcfndaaDoorW.PrintLast Go.Proofs.YtpffoecblcfndaaDoorW.PrintMore
attribute [local go_sem] max2_int min2_int max_two min_two max_three min_three max_four min_four   -- for this text's walks alone
set_option linter.unusedVariables false
set_option linter.unusedSimpArgs false
/-! ### bits_OnesCount8: function 32 -/
abbrev bits_OnesCount8.f := @Go.Proofs.YtpffoecblcfndaaDoor.PVaBase.bits_OnesCount8.f
abbrev bits_OnesCount8.calls := @Go.Proofs.YtpffoecblcfndaaDoor.PVaBase.bits_OnesCount8.calls
/-! ### tagbyte_Ones: function 31 -/
abbrev tagbyte_Ones.f := @Go.Proofs.YtpffoecblcfndaaDoor.PVaBase.tagbyte_Ones.f
abbrev tagbyte_Ones.calls := @Go.Proofs.YtpffoecblcfndaaDoor.PVaBase.tagbyte_Ones.calls
/-! ### unpackstream_room: function 22 -/
abbrev unpackstream_room.f := @Go.Proofs.YtpffoecblcfndaaDoor.PVaBase.unpackstream_room.f
abbrev unpackstream_room.calls := @Go.Proofs.YtpffoecblcfndaaDoor.PVaBase.unpackstream_room.calls
end Go.Proofs.YtpffoecblcfndaaDoor.PUnpackstreamRoundTrip
