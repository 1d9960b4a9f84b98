/-
  DERIVED. GIVEN WITH THE SEED: THE PROGRAM's TIES (one call each: nine closed facts by the kernel) AND EACH ROW's TIE, after the 31st guide's Derived/Test/Toyas{Tie, Card}.lean. No idea stands in it: it is a product of the set-up. Laid BY PROGRAM, IN A SANDBOX (cutbox-door.mjs). By AI agents, Wed Nov 11 2026. No macro, syntax, notation, axiom, sorry.
-/
import Derived.Test.YthghblmffdfbaaaGreatDoorRows
import Derived.LaidByTextLater
import Derived.SevenTiedAt
import Derived.LaidSub
import Derived.LaidOnce
namespace Go.Proofs.YthghblmffdfbaaaGreatDoor
open Go
set_option maxRecDepth 100000
theorem seatTie1 : Tryz.prog.laidByTextLater [("capnp/unpackstream.steps", Rows.laid_capnp_unpackstream_steps), ("capnp/pointer.decoders", Rows.laid_capnp_pointer_decoders), ("errors.errorType", Rows.laid_errors_errorType), ("capnp/unpack.errTruncated", Rows.laid_capnp_unpack_errTruncated), ("capnp/unpack.errLimit", Rows.laid_capnp_unpack_errLimit), ("capnp/listsize.bits", Rows.laid_capnp_listsize_bits)] [.funcs, .funcs, .handle, .sentinel, .sentinel, .data] true :=
  Program.laidByTextLater_by_one 89 8 9 (by kernel_rfl) (by kernel_rfl) (by kernel_rfl) (by kernel_rfl) (by kernel_rfl) (by kernel_rfl) (fun _ _ => by kernel_rfl)
theorem noOwnUnsafe : Tryz.pinned.checked.prog.headLifts.contains "ownunsafe" = false := by kernel_rfl
theorem tie : Tryz.prog.laidByTextLater [("capnp/pointer.decoders", Rows.laid_capnp_pointer_decoders), ("errors.errorType", Rows.laid_errors_errorType), ("capnp/unpack.errTruncated", Rows.laid_capnp_unpack_errTruncated), ("capnp/unpack.errLimit", Rows.laid_capnp_unpack_errLimit), ("capnp/listsize.bits", Rows.laid_capnp_listsize_bits)] [.funcs, .handle, .sentinel, .sentinel, .data] true :=
  Program.laidByTextLater.sub seatTie1 ["capnp/pointer.decoders", "errors.errorType", "capnp/unpack.errTruncated", "capnp/unpack.errLimit", "capnp/listsize.bits"] (by kernel_rfl) (by kernel_rfl)
theorem wholePack_row_tie : Rows.wholePackRow.laidByTextAt .later Tryz.pinned [.funcs, .handle, .sentinel, .sentinel, .data] true :=
  OpenClaim.laidByTextAt_later rfl rfl tie noOwnUnsafe
theorem wholeWork_row_tie : Rows.wholeWorkRow.laidByTextAt .later Tryz.pinned [.funcs, .handle, .sentinel, .sentinel, .data] true :=
  OpenClaim.laidByTextAt_later rfl rfl tie noOwnUnsafe
theorem wholeDamage_row_tie : Rows.wholeDamageRow.laidByTextAt .later Tryz.pinned [.funcs, .handle, .sentinel, .sentinel, .data] true :=
  OpenClaim.laidByTextAt_later rfl rfl tie noOwnUnsafe
theorem wholeEqualHash_row_tie : Rows.wholeEqualHashRow.laidByTextAt .later Tryz.pinned [.funcs, .handle, .sentinel, .sentinel, .data] true :=
  OpenClaim.laidByTextAt_later rfl rfl tie noOwnUnsafe
theorem tie2 : Tryz.prog.laidByTextLater [("capnp/unpackstream.steps", Rows.laid_capnp_unpackstream_steps), ("capnp/pointer.decoders", Rows.laid_capnp_pointer_decoders), ("errors.errorType", Rows.laid_errors_errorType), ("capnp/unpack.errTruncated", Rows.laid_capnp_unpack_errTruncated), ("capnp/unpack.errLimit", Rows.laid_capnp_unpack_errLimit), ("capnp/listsize.bits", Rows.laid_capnp_listsize_bits)] [.funcs, .funcs, .handle, .sentinel, .sentinel, .data] true :=
  Program.laidByTextLater.sub seatTie1 ["capnp/unpackstream.steps", "capnp/pointer.decoders", "errors.errorType", "capnp/unpack.errTruncated", "capnp/unpack.errLimit", "capnp/listsize.bits"] (by kernel_rfl) (by kernel_rfl)
theorem wholeTransport_row_tie : Rows.wholeTransportRow.laidByTextAt .later Tryz.pinned [.funcs, .funcs, .handle, .sentinel, .sentinel, .data] true :=
  OpenClaim.laidByTextAt_later rfl rfl tie2 noOwnUnsafe
theorem wholePackUpto_row_tie : Rows.wholePackUptoRow.laidByTextAt .later Tryz.pinned [.funcs, .handle, .sentinel, .sentinel, .data] true :=
  OpenClaim.laidByTextAt_later rfl rfl tie noOwnUnsafe
theorem wholeWorkUpto_row_tie : Rows.wholeWorkUptoRow.laidByTextAt .later Tryz.pinned [.funcs, .handle, .sentinel, .sentinel, .data] true :=
  OpenClaim.laidByTextAt_later rfl rfl tie noOwnUnsafe
theorem wholeTransportUpto_row_tie : Rows.wholeTransportUptoRow.laidByTextAt .later Tryz.pinned [.funcs, .funcs, .handle, .sentinel, .sentinel, .data] true :=
  OpenClaim.laidByTextAt_later rfl rfl tie2 noOwnUnsafe
theorem wholeDamageUpto_row_tie : Rows.wholeDamageUptoRow.laidByTextAt .later Tryz.pinned [.funcs, .handle, .sentinel, .sentinel, .data] true :=
  OpenClaim.laidByTextAt_later rfl rfl tie noOwnUnsafe
theorem wholeEqualHashUpto_row_tie : Rows.wholeEqualHashUptoRow.laidByTextAt .later Tryz.pinned [.funcs, .handle, .sentinel, .sentinel, .data] true :=
  OpenClaim.laidByTextAt_later rfl rfl tie noOwnUnsafe
end Go.Proofs.YthghblmffdfbaaaGreatDoor
