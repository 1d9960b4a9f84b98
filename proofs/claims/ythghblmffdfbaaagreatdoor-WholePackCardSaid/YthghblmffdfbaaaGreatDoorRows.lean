/-
  NARROWER THAN 'FOR EVERY INPUT', by the rows' own cells (each row's printed sentence says how): WholePack: laid · WholeWork: laid · WholeTransport: laid · WholeDamage: laid · WholeEqualHash: laid.
  DERIVED. THE GIVEN ROWS OF THIS SEAT. 5 by the template 'for every input the law returns true; each argument reads behind the call as it read before'; 0 by the template 'total and deterministic' (their statements: YthghblmffdfbaaaGreatDoorTotals.lean).
  GIVEN WITH THE SEED: the statements are not yours to turn. If you find one false, say at which input.
  Laid BY PROGRAM, IN A SANDBOX (cutbox-rows.mjs): the forced cells as the released guide's own fill.sh prints them over the translation 12e11ff2393ab39a… (all of the seat's roots in one cut). By AI agents, Wed Nov 11 2026. No macro, syntax, notation, axiom, sorry.
-/
import Derived.Test.YthghblmffdfbaaaGreatDoorChecked
import GoSem.Claim
import GoSem.ClaimJoined
import GoSem.ClaimMapViews
import Derived.JoinedTies
import Derived.KernelRfl
namespace Go.Proofs.YthghblmffdfbaaaGreatDoor
/- THE CELL 'sum', in the pinned program and in every row, IS THE sha256 OF THE DUMP (.gsa) THAT YthghblmffdfbaaaGreatDoorProg.lean LOADS. Nothing in Lean hashes anything: it is a label: what it is worth is what the hold of that sum in a sandbox is worth. -/
noncomputable def Tryz.pinned : Pinned := { name := "ythghblmffdfbaaagreatdoor", sum := "12e11ff2393ab39a08b2c708fcf69783f67ca38f6fad6109ab2e6313ac149756", checked := Tryz.checked }
namespace Rows
def none {H : Type} : Left H := { results := [], args := [] }

/- WHAT THE LISTED PACKAGE-LEVEL VARIABLES READ AS WHEN THE CALL BEGINS. Each datum BY PROGRAM (the guide's laid-datum.mjs) off the statement by which the dump's own 'gosem.cut.vars' lays the variable. In a bare row this is a premise. The card (YthghblmffdfbaaaGreatDoorCards.lean) ties it to the program's text. -/
def laid_capnp_pointer_decoders {H : Type} : DataW H := .iface "func table" (.map [(.int .i64 0, .iface "func" (.lit (.string [99, 97, 112, 110, 112, 47, 112, 111, 105, 110, 116, 101, 114, 46, 100, 101, 99, 111, 100, 101, 114, 115, 36, 49]))), (.int .i64 1, .iface "func" (.lit (.string [99, 97, 112, 110, 112, 47, 112, 111, 105, 110, 116, 101, 114, 46, 100, 101, 99, 111, 100, 101, 114, 115, 36, 50]))), (.int .i64 2, .iface "func" (.lit (.string [99, 97, 112, 110, 112, 47, 112, 111, 105, 110, 116, 101, 114, 46, 100, 101, 99, 111, 100, 101, 114, 115, 36, 51]))), (.int .i64 3, .iface "func" (.lit (.string [99, 97, 112, 110, 112, 47, 112, 111, 105, 110, 116, 101, 114, 46, 100, 101, 99, 111, 100, 101, 114, 115, 36, 52])))])
def laid_errors_errorType {H : Type} : DataW H := .iface "internal/reflectlite.rtype" (.agg [.ptr (.lit (.string [101, 114, 114, 111, 114]))])
def laid_capnp_unpack_errTruncated {H : Type} : DataW H := .iface "*errors.errorString" (.ptr (.agg [.lit (.string [117, 110, 112, 97, 99, 107, 58, 32, 116, 114, 117, 110, 99, 97, 116, 101, 100, 32, 105, 110, 112, 117, 116])]))
def laid_capnp_unpack_errLimit {H : Type} : DataW H := .iface "*errors.errorString" (.ptr (.agg [.lit (.string [117, 110, 112, 97, 99, 107, 58, 32, 111, 117, 116, 112, 117, 116, 32, 108, 105, 109, 105, 116, 32, 101, 120, 99, 101, 101, 100, 101, 100])]))
def laid_capnp_listsize_bits {H : Type} : DataW H := .agg [.lit (.int .i64 0), .lit (.int .i64 1), .lit (.int .i64 8), .lit (.int .i64 16), .lit (.int .i64 32), .lit (.int .i64 64), .lit (.int .i64 64), .lit (.int .i64 0)]
def laid_capnp_unpackstream_steps {H : Type} : DataW H := .iface "func table" (.agg [.iface "func" (.lit (.string [40, 42, 99, 97, 112, 110, 112, 47, 117, 110, 112, 97, 99, 107, 115, 116, 114, 101, 97, 109, 46, 114, 101, 97, 100, 101, 114, 41, 46, 116, 97, 103])), .iface "func" (.lit (.string [40, 42, 99, 97, 112, 110, 112, 47, 117, 110, 112, 97, 99, 107, 115, 116, 114, 101, 97, 109, 46, 114, 101, 97, 100, 101, 114, 41, 46, 116, 97, 103, 103, 101, 100])), .iface "func" (.lit (.string [40, 42, 99, 97, 112, 110, 112, 47, 117, 110, 112, 97, 99, 107, 115, 116, 114, 101, 97, 109, 46, 114, 101, 97, 100, 101, 114, 41, 46, 122, 101, 114, 111, 115])), .iface "func" (.lit (.string [40, 42, 99, 97, 112, 110, 112, 47, 117, 110, 112, 97, 99, 107, 115, 116, 114, 101, 97, 109, 46, 114, 101, 97, 100, 101, 114, 41, 46, 99, 111, 117, 110, 116])), .iface "func" (.lit (.string [40, 42, 99, 97, 112, 110, 112, 47, 117, 110, 112, 97, 99, 107, 115, 116, 114, 101, 97, 109, 46, 114, 101, 97, 100, 101, 114, 41, 46, 108, 105, 116, 101, 114, 97, 108]))])

/-- 'capnptop.WholePack': WHATEVER THE INPUT: true; the input reads as it did. -/
def wholePackSpec : ChangeSpec := { name := "wholePack", fn := fun _ => fun
  | [d1, d2] => { results := [.lit (.bool true)], args := [d1, d2] }
  | _ => none }
def wholePackRow : OpenClaim := { program := "ythghblmffdfbaaagreatdoor", sum := "12e11ff2393ab39a08b2c708fcf69783f67ca38f6fad6109ab2e6313ac149756", func := "capnp/capnptop.WholePack", spec := "wholePack", inPlace := ["internal/reflectlite.ValueOf", "(internal/reflectlite.Value).Type", "(internal/reflectlite.Value).IsNil", "internal/reflectlite.TypeOf", "(internal/reflectlite.Value).Elem", "(internal/reflectlite.Value).Set"], unfollowed := true, recurses := true, named := ["capnp/pointer.decoders", "capnp/listsize.bits", "errors.errorType", "capnp/unpack.errLimit", "capnp/unpack.errTruncated"], apart := false, laid := [("capnp/pointer.decoders", laid_capnp_pointer_decoders), ("errors.errorType", laid_errors_errorType), ("capnp/unpack.errTruncated", laid_capnp_unpack_errTruncated), ("capnp/unpack.errLimit", laid_capnp_unpack_errLimit), ("capnp/listsize.bits", laid_capnp_listsize_bits)] }
def WholePackSaid : Prop := wholePackRow.holds Tryz.pinned (OpenSpec.ofChange wholePackSpec)

/-- ITS FALSE NEIGHBOUR: 'it returns false'. Refute it at one input. -/
def wholePackWrong : ChangeSpec := { name := "wholePack", fn := fun _ => fun
  | [d1, d2] => { results := [.lit (.bool false)], args := [d1, d2] }
  | _ => none }
def WholePackWrongFalsely : Prop := wholePackRow.holds Tryz.pinned (OpenSpec.ofChange wholePackWrong)

/-- 'capnptop.WholeWork': WHATEVER THE INPUT: true; the input reads as it did. -/
def wholeWorkSpec : ChangeSpec := { name := "wholeWork", fn := fun _ => fun
  | [d1, d2] => { results := [.lit (.bool true)], args := [d1, d2] }
  | _ => none }
def wholeWorkRow : OpenClaim := { program := "ythghblmffdfbaaagreatdoor", sum := "12e11ff2393ab39a08b2c708fcf69783f67ca38f6fad6109ab2e6313ac149756", func := "capnp/capnptop.WholeWork", spec := "wholeWork", inPlace := ["internal/reflectlite.ValueOf", "(internal/reflectlite.Value).Type", "(internal/reflectlite.Value).IsNil", "internal/reflectlite.TypeOf", "(internal/reflectlite.Value).Elem", "(internal/reflectlite.Value).Set"], unfollowed := true, recurses := true, named := ["capnp/pointer.decoders", "capnp/listsize.bits", "errors.errorType", "capnp/unpack.errLimit", "capnp/unpack.errTruncated"], apart := false, laid := [("capnp/pointer.decoders", laid_capnp_pointer_decoders), ("errors.errorType", laid_errors_errorType), ("capnp/unpack.errTruncated", laid_capnp_unpack_errTruncated), ("capnp/unpack.errLimit", laid_capnp_unpack_errLimit), ("capnp/listsize.bits", laid_capnp_listsize_bits)] }
def WholeWorkSaid : Prop := wholeWorkRow.holds Tryz.pinned (OpenSpec.ofChange wholeWorkSpec)

/-- ITS FALSE NEIGHBOUR: 'it returns false'. Refute it at one input. -/
def wholeWorkWrong : ChangeSpec := { name := "wholeWork", fn := fun _ => fun
  | [d1, d2] => { results := [.lit (.bool false)], args := [d1, d2] }
  | _ => none }
def WholeWorkWrongFalsely : Prop := wholeWorkRow.holds Tryz.pinned (OpenSpec.ofChange wholeWorkWrong)

/-- 'capnptop.WholeTransport': WHATEVER THE INPUT: true; the input reads as it did. -/
def wholeTransportSpec : ChangeSpec := { name := "wholeTransport", fn := fun _ => fun
  | [d1, d2, d3] => { results := [.lit (.bool true)], args := [d1, d2, d3] }
  | _ => none }
def wholeTransportRow : OpenClaim := { program := "ythghblmffdfbaaagreatdoor", sum := "12e11ff2393ab39a08b2c708fcf69783f67ca38f6fad6109ab2e6313ac149756", func := "capnp/capnptop.WholeTransport", spec := "wholeTransport", inPlace := ["internal/reflectlite.ValueOf", "(internal/reflectlite.Value).Type", "(internal/reflectlite.Value).IsNil", "internal/reflectlite.TypeOf", "(internal/reflectlite.Value).Elem", "(internal/reflectlite.Value).Set"], unfollowed := true, recurses := true, named := ["capnp/pointer.decoders", "capnp/listsize.bits", "errors.errorType", "capnp/unpack.errLimit", "capnp/unpack.errTruncated", "capnp/unpackstream.steps"], apart := false, laid := [("capnp/unpackstream.steps", laid_capnp_unpackstream_steps), ("capnp/pointer.decoders", laid_capnp_pointer_decoders), ("errors.errorType", laid_errors_errorType), ("capnp/unpack.errTruncated", laid_capnp_unpack_errTruncated), ("capnp/unpack.errLimit", laid_capnp_unpack_errLimit), ("capnp/listsize.bits", laid_capnp_listsize_bits)] }
def WholeTransportSaid : Prop := wholeTransportRow.holds Tryz.pinned (OpenSpec.ofChange wholeTransportSpec)

/-- ITS FALSE NEIGHBOUR: 'it returns false'. Refute it at one input. -/
def wholeTransportWrong : ChangeSpec := { name := "wholeTransport", fn := fun _ => fun
  | [d1, d2, d3] => { results := [.lit (.bool false)], args := [d1, d2, d3] }
  | _ => none }
def WholeTransportWrongFalsely : Prop := wholeTransportRow.holds Tryz.pinned (OpenSpec.ofChange wholeTransportWrong)

/-- 'capnptop.WholeDamage': WHATEVER THE INPUT: true; the input reads as it did. -/
def wholeDamageSpec : ChangeSpec := { name := "wholeDamage", fn := fun _ => fun
  | [d1, d2, d3] => { results := [.lit (.bool true)], args := [d1, d2, d3] }
  | _ => none }
def wholeDamageRow : OpenClaim := { program := "ythghblmffdfbaaagreatdoor", sum := "12e11ff2393ab39a08b2c708fcf69783f67ca38f6fad6109ab2e6313ac149756", func := "capnp/capnptop.WholeDamage", spec := "wholeDamage", inPlace := ["internal/reflectlite.ValueOf", "(internal/reflectlite.Value).Type", "(internal/reflectlite.Value).IsNil", "internal/reflectlite.TypeOf", "(internal/reflectlite.Value).Elem", "(internal/reflectlite.Value).Set"], unfollowed := true, recurses := true, named := ["capnp/pointer.decoders", "capnp/listsize.bits", "errors.errorType", "capnp/unpack.errLimit", "capnp/unpack.errTruncated"], apart := false, laid := [("capnp/pointer.decoders", laid_capnp_pointer_decoders), ("errors.errorType", laid_errors_errorType), ("capnp/unpack.errTruncated", laid_capnp_unpack_errTruncated), ("capnp/unpack.errLimit", laid_capnp_unpack_errLimit), ("capnp/listsize.bits", laid_capnp_listsize_bits)] }
def WholeDamageSaid : Prop := wholeDamageRow.holds Tryz.pinned (OpenSpec.ofChange wholeDamageSpec)

/-- ITS FALSE NEIGHBOUR: 'it returns false'. Refute it at one input. -/
def wholeDamageWrong : ChangeSpec := { name := "wholeDamage", fn := fun _ => fun
  | [d1, d2, d3] => { results := [.lit (.bool false)], args := [d1, d2, d3] }
  | _ => none }
def WholeDamageWrongFalsely : Prop := wholeDamageRow.holds Tryz.pinned (OpenSpec.ofChange wholeDamageWrong)

/-- 'capnptop.WholeEqualHash': WHATEVER THE INPUT: true; the input reads as it did. -/
def wholeEqualHashSpec : ChangeSpec := { name := "wholeEqualHash", fn := fun _ => fun
  | [d1, d2, d3] => { results := [.lit (.bool true)], args := [d1, d2, d3] }
  | _ => none }
def wholeEqualHashRow : OpenClaim := { program := "ythghblmffdfbaaagreatdoor", sum := "12e11ff2393ab39a08b2c708fcf69783f67ca38f6fad6109ab2e6313ac149756", func := "capnp/capnptop.WholeEqualHash", spec := "wholeEqualHash", inPlace := ["internal/reflectlite.ValueOf", "(internal/reflectlite.Value).Type", "(internal/reflectlite.Value).IsNil", "internal/reflectlite.TypeOf", "(internal/reflectlite.Value).Elem", "(internal/reflectlite.Value).Set"], unfollowed := true, recurses := true, named := ["capnp/pointer.decoders", "capnp/listsize.bits", "errors.errorType", "capnp/unpack.errLimit", "capnp/unpack.errTruncated"], apart := false, laid := [("capnp/pointer.decoders", laid_capnp_pointer_decoders), ("errors.errorType", laid_errors_errorType), ("capnp/unpack.errTruncated", laid_capnp_unpack_errTruncated), ("capnp/unpack.errLimit", laid_capnp_unpack_errLimit), ("capnp/listsize.bits", laid_capnp_listsize_bits)] }
def WholeEqualHashSaid : Prop := wholeEqualHashRow.holds Tryz.pinned (OpenSpec.ofChange wholeEqualHashSpec)

/-- ITS FALSE NEIGHBOUR: 'it returns false'. Refute it at one input. -/
def wholeEqualHashWrong : ChangeSpec := { name := "wholeEqualHash", fn := fun _ => fun
  | [d1, d2, d3] => { results := [.lit (.bool false)], args := [d1, d2, d3] }
  | _ => none }
def WholeEqualHashWrongFalsely : Prop := wholeEqualHashRow.holds Tryz.pinned (OpenSpec.ofChange wholeEqualHashWrong)

/- THE SECOND FORM. 'bulk': how many values and letters a reading holds, each counted each time it is reached (what is shared counts as often as it is met; a slice's spare places count too). A statement '..UptoSaid' is the law's where the arguments, and the package variables that the reading takes, are together of bulk at most 1048576: NARROWER than '..Said'. Prove '..Said' where nothing that the law and all that it calls make is longer than what came in: it says more and counts as full. Else prove '..UptoSaid'. A law counts once. -/
mutual
def uptoBulk {H : Type} : DataW H → Nat
  | .lit (.string bytes) => bytes.length + 1
  | .lit _ => 1
  | .nil => 1
  | .ptr d => uptoBulk d + 1
  | .slice elems spare => uptoBulkAll elems + uptoBulkAll spare + 1
  | .agg parts => uptoBulkAll parts + 1
  | .iface _ d => uptoBulk d + 1
  | .map entries => uptoBulkEntries entries + 1
  | .held _ => 1
def uptoBulkAll {H : Type} : List (DataW H) → Nat
  | [] => 0
  | d :: r => uptoBulk d + uptoBulkAll r
def uptoBulkEntries {H : Type} : List (Lit × DataW H) → Nat
  | [] => 0
  | x :: r => uptoBulkEntry x + uptoBulkEntries r
def uptoBulkEntry {H : Type} : Lit × DataW H → Nat
  | (.string bytes, d) => bytes.length + uptoBulk d + 1
  | (_, d) => uptoBulk d + 1
 end
def uptoSmall : (H : Type) → List (DataW H) → Bool := fun _ ds => decide (uptoBulkAll ds ≤ 1048576)
def OpenSpec.upto (s : _root_.Go.ChangeSpec) : _root_.Go.OpenSpec := { _root_.Go.OpenSpec.ofChange s with cond := some uptoSmall }

/-- 'capnptop.WholePack', WHERE WHAT IT READS IS OF BULK AT MOST 1048576: true; the input reads as it did. -/
def wholePackUptoRow : OpenClaim := { program := "ythghblmffdfbaaagreatdoor", sum := "12e11ff2393ab39a08b2c708fcf69783f67ca38f6fad6109ab2e6313ac149756", func := "capnp/capnptop.WholePack", spec := "wholePack", inPlace := ["internal/reflectlite.ValueOf", "(internal/reflectlite.Value).Type", "(internal/reflectlite.Value).IsNil", "internal/reflectlite.TypeOf", "(internal/reflectlite.Value).Elem", "(internal/reflectlite.Value).Set"], unfollowed := true, recurses := true, named := ["capnp/pointer.decoders", "capnp/listsize.bits", "errors.errorType", "capnp/unpack.errLimit", "capnp/unpack.errTruncated"], apart := false, laid := [("capnp/pointer.decoders", laid_capnp_pointer_decoders), ("errors.errorType", laid_errors_errorType), ("capnp/unpack.errTruncated", laid_capnp_unpack_errTruncated), ("capnp/unpack.errLimit", laid_capnp_unpack_errLimit), ("capnp/listsize.bits", laid_capnp_listsize_bits)], narrowed := true }
def WholePackUptoSaid : Prop := wholePackUptoRow.holds Tryz.pinned (OpenSpec.upto wholePackSpec)

/-- 'capnptop.WholeWork', WHERE WHAT IT READS IS OF BULK AT MOST 1048576: true; the input reads as it did. -/
def wholeWorkUptoRow : OpenClaim := { program := "ythghblmffdfbaaagreatdoor", sum := "12e11ff2393ab39a08b2c708fcf69783f67ca38f6fad6109ab2e6313ac149756", func := "capnp/capnptop.WholeWork", spec := "wholeWork", inPlace := ["internal/reflectlite.ValueOf", "(internal/reflectlite.Value).Type", "(internal/reflectlite.Value).IsNil", "internal/reflectlite.TypeOf", "(internal/reflectlite.Value).Elem", "(internal/reflectlite.Value).Set"], unfollowed := true, recurses := true, named := ["capnp/pointer.decoders", "capnp/listsize.bits", "errors.errorType", "capnp/unpack.errLimit", "capnp/unpack.errTruncated"], apart := false, laid := [("capnp/pointer.decoders", laid_capnp_pointer_decoders), ("errors.errorType", laid_errors_errorType), ("capnp/unpack.errTruncated", laid_capnp_unpack_errTruncated), ("capnp/unpack.errLimit", laid_capnp_unpack_errLimit), ("capnp/listsize.bits", laid_capnp_listsize_bits)], narrowed := true }
def WholeWorkUptoSaid : Prop := wholeWorkUptoRow.holds Tryz.pinned (OpenSpec.upto wholeWorkSpec)

/-- 'capnptop.WholeTransport', WHERE WHAT IT READS IS OF BULK AT MOST 1048576: true; the input reads as it did. -/
def wholeTransportUptoRow : OpenClaim := { program := "ythghblmffdfbaaagreatdoor", sum := "12e11ff2393ab39a08b2c708fcf69783f67ca38f6fad6109ab2e6313ac149756", func := "capnp/capnptop.WholeTransport", spec := "wholeTransport", inPlace := ["internal/reflectlite.ValueOf", "(internal/reflectlite.Value).Type", "(internal/reflectlite.Value).IsNil", "internal/reflectlite.TypeOf", "(internal/reflectlite.Value).Elem", "(internal/reflectlite.Value).Set"], unfollowed := true, recurses := true, named := ["capnp/pointer.decoders", "capnp/listsize.bits", "errors.errorType", "capnp/unpack.errLimit", "capnp/unpack.errTruncated", "capnp/unpackstream.steps"], apart := false, laid := [("capnp/unpackstream.steps", laid_capnp_unpackstream_steps), ("capnp/pointer.decoders", laid_capnp_pointer_decoders), ("errors.errorType", laid_errors_errorType), ("capnp/unpack.errTruncated", laid_capnp_unpack_errTruncated), ("capnp/unpack.errLimit", laid_capnp_unpack_errLimit), ("capnp/listsize.bits", laid_capnp_listsize_bits)], narrowed := true }
def WholeTransportUptoSaid : Prop := wholeTransportUptoRow.holds Tryz.pinned (OpenSpec.upto wholeTransportSpec)

/-- 'capnptop.WholeDamage', WHERE WHAT IT READS IS OF BULK AT MOST 1048576: true; the input reads as it did. -/
def wholeDamageUptoRow : OpenClaim := { program := "ythghblmffdfbaaagreatdoor", sum := "12e11ff2393ab39a08b2c708fcf69783f67ca38f6fad6109ab2e6313ac149756", func := "capnp/capnptop.WholeDamage", spec := "wholeDamage", inPlace := ["internal/reflectlite.ValueOf", "(internal/reflectlite.Value).Type", "(internal/reflectlite.Value).IsNil", "internal/reflectlite.TypeOf", "(internal/reflectlite.Value).Elem", "(internal/reflectlite.Value).Set"], unfollowed := true, recurses := true, named := ["capnp/pointer.decoders", "capnp/listsize.bits", "errors.errorType", "capnp/unpack.errLimit", "capnp/unpack.errTruncated"], apart := false, laid := [("capnp/pointer.decoders", laid_capnp_pointer_decoders), ("errors.errorType", laid_errors_errorType), ("capnp/unpack.errTruncated", laid_capnp_unpack_errTruncated), ("capnp/unpack.errLimit", laid_capnp_unpack_errLimit), ("capnp/listsize.bits", laid_capnp_listsize_bits)], narrowed := true }
def WholeDamageUptoSaid : Prop := wholeDamageUptoRow.holds Tryz.pinned (OpenSpec.upto wholeDamageSpec)

/-- 'capnptop.WholeEqualHash', WHERE WHAT IT READS IS OF BULK AT MOST 1048576: true; the input reads as it did. -/
def wholeEqualHashUptoRow : OpenClaim := { program := "ythghblmffdfbaaagreatdoor", sum := "12e11ff2393ab39a08b2c708fcf69783f67ca38f6fad6109ab2e6313ac149756", func := "capnp/capnptop.WholeEqualHash", spec := "wholeEqualHash", inPlace := ["internal/reflectlite.ValueOf", "(internal/reflectlite.Value).Type", "(internal/reflectlite.Value).IsNil", "internal/reflectlite.TypeOf", "(internal/reflectlite.Value).Elem", "(internal/reflectlite.Value).Set"], unfollowed := true, recurses := true, named := ["capnp/pointer.decoders", "capnp/listsize.bits", "errors.errorType", "capnp/unpack.errLimit", "capnp/unpack.errTruncated"], apart := false, laid := [("capnp/pointer.decoders", laid_capnp_pointer_decoders), ("errors.errorType", laid_errors_errorType), ("capnp/unpack.errTruncated", laid_capnp_unpack_errTruncated), ("capnp/unpack.errLimit", laid_capnp_unpack_errLimit), ("capnp/listsize.bits", laid_capnp_listsize_bits)], narrowed := true }
def WholeEqualHashUptoSaid : Prop := wholeEqualHashUptoRow.holds Tryz.pinned (OpenSpec.upto wholeEqualHashSpec)

end Rows
end Go.Proofs.YthghblmffdfbaaaGreatDoor
