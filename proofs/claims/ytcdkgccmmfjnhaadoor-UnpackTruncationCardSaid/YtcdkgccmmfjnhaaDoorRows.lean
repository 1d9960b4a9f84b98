/-
  NARROWER THAN 'FOR EVERY INPUT', by the rows' own cells (each row's printed sentence says how): UnpackMatchesReference: laid · UnpackRoundTrip: laid · UnpackLimit: laid · UnpackTruncation: laid · UnpackKeeps: laid.
  DERIVED. THE GIVEN ROWS OF THIS SEAT. 5 by the template 'for every input the law returns true; each argument reads behind the call as it read before'; 0 by the template 'total and deterministic' (their statements: YtcdkgccmmfjnhaaDoorTotals.lean).
  GIVEN WITH THE SEED: the statements are not yours to turn. If you find one false, say at which input.
  Laid BY PROGRAM, IN A SANDBOX (cutbox-rows.mjs): the forced cells as the released guide's own fill.sh prints them over the translation c231d2463316bdbd… (all of the seat's roots in one cut). By AI agents, Wed Nov 11 2026. No macro, syntax, notation, axiom, sorry.
-/
import Derived.Test.YtcdkgccmmfjnhaaDoorChecked
import GoSem.Claim
import GoSem.ClaimJoined
import GoSem.ClaimMapViews
import Derived.JoinedTies
import Derived.KernelRfl
namespace Go.Proofs.YtcdkgccmmfjnhaaDoor
/- THE CELL 'sum', in the pinned program and in every row, IS THE sha256 OF THE DUMP (.gsa) THAT YtcdkgccmmfjnhaaDoorProg.lean LOADS. Nothing in Lean hashes anything: it is a label: what it is worth is what the hold of that sum in a sandbox is worth. -/
noncomputable def Tryd.pinned : Pinned := { name := "ytcdkgccmmfjnhaadoor", sum := "c231d2463316bdbd88af2abfb70f34d5dbf35eb217a5791279524fb460c009bb", checked := Tryd.checked }
namespace Rows
def none {H : Type} : Left H := { results := [], args := [] }

/- WHAT THE LISTED PACKAGE-LEVEL VARIABLES READ AS WHEN THE CALL BEGINS. Each datum BY PROGRAM (the guide's laid-datum.mjs) off the statement by which the dump's own 'gosem.cut.vars' lays the variable. In a bare row this is a premise. The card (YtcdkgccmmfjnhaaDoorCards.lean) ties it to the program's text. -/
def laid_capnp_unpack_errTruncated {H : Type} : DataW H := .iface "*errors.errorString" (.ptr (.agg [.lit (.string [117, 110, 112, 97, 99, 107, 58, 32, 116, 114, 117, 110, 99, 97, 116, 101, 100, 32, 105, 110, 112, 117, 116])]))
def laid_capnp_unpack_errLimit {H : Type} : DataW H := .iface "*errors.errorString" (.ptr (.agg [.lit (.string [117, 110, 112, 97, 99, 107, 58, 32, 111, 117, 116, 112, 117, 116, 32, 108, 105, 109, 105, 116, 32, 101, 120, 99, 101, 101, 100, 101, 100])]))

/-- 'capnplaw22.UnpackMatchesReference': WHATEVER THE INPUT: true; the input reads as it did. -/
def unpackMatchesReferenceSpec : ChangeSpec := { name := "unpackMatchesReference", fn := fun _ => fun
  | [d1, d2] => { results := [.lit (.bool true)], args := [d1, d2] }
  | _ => none }
def unpackMatchesReferenceRow : OpenClaim := { program := "ytcdkgccmmfjnhaadoor", sum := "c231d2463316bdbd88af2abfb70f34d5dbf35eb217a5791279524fb460c009bb", func := "capnp/capnplaw22.UnpackMatchesReference", spec := "unpackMatchesReference", inPlace := ["internal/reflectlite.TypeOf"], unfollowed := true, recurses := true, named := ["capnp/unpack.errLimit", "capnp/unpack.errTruncated"], apart := false, laid := [("capnp/unpack.errTruncated", laid_capnp_unpack_errTruncated), ("capnp/unpack.errLimit", laid_capnp_unpack_errLimit)] }
def UnpackMatchesReferenceSaid : Prop := unpackMatchesReferenceRow.holds Tryd.pinned (OpenSpec.ofChange unpackMatchesReferenceSpec)

/-- ITS FALSE NEIGHBOUR: 'it returns false'. Refute it at one input. -/
def unpackMatchesReferenceWrong : ChangeSpec := { name := "unpackMatchesReference", fn := fun _ => fun
  | [d1, d2] => { results := [.lit (.bool false)], args := [d1, d2] }
  | _ => none }
def UnpackMatchesReferenceWrongFalsely : Prop := unpackMatchesReferenceRow.holds Tryd.pinned (OpenSpec.ofChange unpackMatchesReferenceWrong)

/-- 'capnplaw22.UnpackRoundTrip': WHATEVER THE INPUT: true; the input reads as it did. -/
def unpackRoundTripSpec : ChangeSpec := { name := "unpackRoundTrip", fn := fun _ => fun
  | [d1, d2] => { results := [.lit (.bool true)], args := [d1, d2] }
  | _ => none }
def unpackRoundTripRow : OpenClaim := { program := "ytcdkgccmmfjnhaadoor", sum := "c231d2463316bdbd88af2abfb70f34d5dbf35eb217a5791279524fb460c009bb", func := "capnp/capnplaw22.UnpackRoundTrip", spec := "unpackRoundTrip", inPlace := ["internal/reflectlite.TypeOf"], unfollowed := true, recurses := true, named := ["capnp/unpack.errLimit", "capnp/unpack.errTruncated"], apart := false, laid := [("capnp/unpack.errTruncated", laid_capnp_unpack_errTruncated), ("capnp/unpack.errLimit", laid_capnp_unpack_errLimit)] }
def UnpackRoundTripSaid : Prop := unpackRoundTripRow.holds Tryd.pinned (OpenSpec.ofChange unpackRoundTripSpec)

/-- ITS FALSE NEIGHBOUR: 'it returns false'. Refute it at one input. -/
def unpackRoundTripWrong : ChangeSpec := { name := "unpackRoundTrip", fn := fun _ => fun
  | [d1, d2] => { results := [.lit (.bool false)], args := [d1, d2] }
  | _ => none }
def UnpackRoundTripWrongFalsely : Prop := unpackRoundTripRow.holds Tryd.pinned (OpenSpec.ofChange unpackRoundTripWrong)

/-- 'capnplaw22.UnpackLimit': WHATEVER THE INPUT: true; the input reads as it did. -/
def unpackLimitSpec : ChangeSpec := { name := "unpackLimit", fn := fun _ => fun
  | [d1, d2, d3] => { results := [.lit (.bool true)], args := [d1, d2, d3] }
  | _ => none }
def unpackLimitRow : OpenClaim := { program := "ytcdkgccmmfjnhaadoor", sum := "c231d2463316bdbd88af2abfb70f34d5dbf35eb217a5791279524fb460c009bb", func := "capnp/capnplaw22.UnpackLimit", spec := "unpackLimit", inPlace := ["internal/reflectlite.TypeOf"], unfollowed := true, recurses := true, named := ["capnp/unpack.errLimit", "capnp/unpack.errTruncated"], apart := false, laid := [("capnp/unpack.errTruncated", laid_capnp_unpack_errTruncated), ("capnp/unpack.errLimit", laid_capnp_unpack_errLimit)] }
def UnpackLimitSaid : Prop := unpackLimitRow.holds Tryd.pinned (OpenSpec.ofChange unpackLimitSpec)

/-- ITS FALSE NEIGHBOUR: 'it returns false'. Refute it at one input. -/
def unpackLimitWrong : ChangeSpec := { name := "unpackLimit", fn := fun _ => fun
  | [d1, d2, d3] => { results := [.lit (.bool false)], args := [d1, d2, d3] }
  | _ => none }
def UnpackLimitWrongFalsely : Prop := unpackLimitRow.holds Tryd.pinned (OpenSpec.ofChange unpackLimitWrong)

/-- 'capnplaw22.UnpackTruncation': WHATEVER THE INPUT: true; the input reads as it did. -/
def unpackTruncationSpec : ChangeSpec := { name := "unpackTruncation", fn := fun _ => fun
  | [d1, d2, d3] => { results := [.lit (.bool true)], args := [d1, d2, d3] }
  | _ => none }
def unpackTruncationRow : OpenClaim := { program := "ytcdkgccmmfjnhaadoor", sum := "c231d2463316bdbd88af2abfb70f34d5dbf35eb217a5791279524fb460c009bb", func := "capnp/capnplaw22.UnpackTruncation", spec := "unpackTruncation", inPlace := ["internal/reflectlite.TypeOf"], unfollowed := true, recurses := true, named := ["capnp/unpack.errLimit", "capnp/unpack.errTruncated"], apart := false, laid := [("capnp/unpack.errTruncated", laid_capnp_unpack_errTruncated), ("capnp/unpack.errLimit", laid_capnp_unpack_errLimit)] }
def UnpackTruncationSaid : Prop := unpackTruncationRow.holds Tryd.pinned (OpenSpec.ofChange unpackTruncationSpec)

/-- ITS FALSE NEIGHBOUR: 'it returns false'. Refute it at one input. -/
def unpackTruncationWrong : ChangeSpec := { name := "unpackTruncation", fn := fun _ => fun
  | [d1, d2, d3] => { results := [.lit (.bool false)], args := [d1, d2, d3] }
  | _ => none }
def UnpackTruncationWrongFalsely : Prop := unpackTruncationRow.holds Tryd.pinned (OpenSpec.ofChange unpackTruncationWrong)

/-- 'capnplaw22.UnpackKeeps': WHATEVER THE INPUT: true; the input reads as it did. -/
def unpackKeepsSpec : ChangeSpec := { name := "unpackKeeps", fn := fun _ => fun
  | [d1, d2] => { results := [.lit (.bool true)], args := [d1, d2] }
  | _ => none }
def unpackKeepsRow : OpenClaim := { program := "ytcdkgccmmfjnhaadoor", sum := "c231d2463316bdbd88af2abfb70f34d5dbf35eb217a5791279524fb460c009bb", func := "capnp/capnplaw22.UnpackKeeps", spec := "unpackKeeps", inPlace := ["internal/reflectlite.TypeOf"], unfollowed := true, recurses := true, named := ["capnp/unpack.errLimit", "capnp/unpack.errTruncated"], apart := false, laid := [("capnp/unpack.errTruncated", laid_capnp_unpack_errTruncated), ("capnp/unpack.errLimit", laid_capnp_unpack_errLimit)] }
def UnpackKeepsSaid : Prop := unpackKeepsRow.holds Tryd.pinned (OpenSpec.ofChange unpackKeepsSpec)

/-- ITS FALSE NEIGHBOUR: 'it returns false'. Refute it at one input. -/
def unpackKeepsWrong : ChangeSpec := { name := "unpackKeeps", fn := fun _ => fun
  | [d1, d2] => { results := [.lit (.bool false)], args := [d1, d2] }
  | _ => none }
def UnpackKeepsWrongFalsely : Prop := unpackKeepsRow.holds Tryd.pinned (OpenSpec.ofChange unpackKeepsWrong)

/- THE SECOND FORM. 'bulk': how many values and letters a reading holds, each counted each time it is reached (what is shared counts as often as it is met; a slice's spare places count too). A statement '..UptoSaid' is the law's where the arguments, and the package variables that the reading takes, are together of bulk at most 1048576: NARROWER than '..Said'. Prove '..Said' where nothing that the law and all that it calls make is longer than what came in: it says more and counts as full. Else prove '..UptoSaid'. A law counts once. -/
mutual
def uptoBulk {H : Type} : DataW H → Nat
  | .lit (.string bytes) => bytes.length + 1
  | .lit _ => 1
  | .nil => 1
  | .ptr d => uptoBulk d + 1
  | .slice elems spare => uptoBulkAll elems + uptoBulkAll spare + 1
  | .agg parts => uptoBulkAll parts + 1
  | .iface _ d => uptoBulk d + 1
  | .map entries => uptoBulkEntries entries + 1
  | .held _ => 1
def uptoBulkAll {H : Type} : List (DataW H) → Nat
  | [] => 0
  | d :: r => uptoBulk d + uptoBulkAll r
def uptoBulkEntries {H : Type} : List (Lit × DataW H) → Nat
  | [] => 0
  | x :: r => uptoBulkEntry x + uptoBulkEntries r
def uptoBulkEntry {H : Type} : Lit × DataW H → Nat
  | (.string bytes, d) => bytes.length + uptoBulk d + 1
  | (_, d) => uptoBulk d + 1
 end
def uptoSmall : (H : Type) → List (DataW H) → Bool := fun _ ds => decide (uptoBulkAll ds ≤ 1048576)
def OpenSpec.upto (s : _root_.Go.ChangeSpec) : _root_.Go.OpenSpec := { _root_.Go.OpenSpec.ofChange s with cond := some uptoSmall }

/-- 'capnplaw22.UnpackMatchesReference', WHERE WHAT IT READS IS OF BULK AT MOST 1048576: true; the input reads as it did. -/
def unpackMatchesReferenceUptoRow : OpenClaim := { program := "ytcdkgccmmfjnhaadoor", sum := "c231d2463316bdbd88af2abfb70f34d5dbf35eb217a5791279524fb460c009bb", func := "capnp/capnplaw22.UnpackMatchesReference", spec := "unpackMatchesReference", inPlace := ["internal/reflectlite.TypeOf"], unfollowed := true, recurses := true, named := ["capnp/unpack.errLimit", "capnp/unpack.errTruncated"], apart := false, laid := [("capnp/unpack.errTruncated", laid_capnp_unpack_errTruncated), ("capnp/unpack.errLimit", laid_capnp_unpack_errLimit)], narrowed := true }
def UnpackMatchesReferenceUptoSaid : Prop := unpackMatchesReferenceUptoRow.holds Tryd.pinned (OpenSpec.upto unpackMatchesReferenceSpec)

/-- 'capnplaw22.UnpackRoundTrip', WHERE WHAT IT READS IS OF BULK AT MOST 1048576: true; the input reads as it did. -/
def unpackRoundTripUptoRow : OpenClaim := { program := "ytcdkgccmmfjnhaadoor", sum := "c231d2463316bdbd88af2abfb70f34d5dbf35eb217a5791279524fb460c009bb", func := "capnp/capnplaw22.UnpackRoundTrip", spec := "unpackRoundTrip", inPlace := ["internal/reflectlite.TypeOf"], unfollowed := true, recurses := true, named := ["capnp/unpack.errLimit", "capnp/unpack.errTruncated"], apart := false, laid := [("capnp/unpack.errTruncated", laid_capnp_unpack_errTruncated), ("capnp/unpack.errLimit", laid_capnp_unpack_errLimit)], narrowed := true }
def UnpackRoundTripUptoSaid : Prop := unpackRoundTripUptoRow.holds Tryd.pinned (OpenSpec.upto unpackRoundTripSpec)

/-- 'capnplaw22.UnpackLimit', WHERE WHAT IT READS IS OF BULK AT MOST 1048576: true; the input reads as it did. -/
def unpackLimitUptoRow : OpenClaim := { program := "ytcdkgccmmfjnhaadoor", sum := "c231d2463316bdbd88af2abfb70f34d5dbf35eb217a5791279524fb460c009bb", func := "capnp/capnplaw22.UnpackLimit", spec := "unpackLimit", inPlace := ["internal/reflectlite.TypeOf"], unfollowed := true, recurses := true, named := ["capnp/unpack.errLimit", "capnp/unpack.errTruncated"], apart := false, laid := [("capnp/unpack.errTruncated", laid_capnp_unpack_errTruncated), ("capnp/unpack.errLimit", laid_capnp_unpack_errLimit)], narrowed := true }
def UnpackLimitUptoSaid : Prop := unpackLimitUptoRow.holds Tryd.pinned (OpenSpec.upto unpackLimitSpec)

/-- 'capnplaw22.UnpackTruncation', WHERE WHAT IT READS IS OF BULK AT MOST 1048576: true; the input reads as it did. -/
def unpackTruncationUptoRow : OpenClaim := { program := "ytcdkgccmmfjnhaadoor", sum := "c231d2463316bdbd88af2abfb70f34d5dbf35eb217a5791279524fb460c009bb", func := "capnp/capnplaw22.UnpackTruncation", spec := "unpackTruncation", inPlace := ["internal/reflectlite.TypeOf"], unfollowed := true, recurses := true, named := ["capnp/unpack.errLimit", "capnp/unpack.errTruncated"], apart := false, laid := [("capnp/unpack.errTruncated", laid_capnp_unpack_errTruncated), ("capnp/unpack.errLimit", laid_capnp_unpack_errLimit)], narrowed := true }
def UnpackTruncationUptoSaid : Prop := unpackTruncationUptoRow.holds Tryd.pinned (OpenSpec.upto unpackTruncationSpec)

/-- 'capnplaw22.UnpackKeeps', WHERE WHAT IT READS IS OF BULK AT MOST 1048576: true; the input reads as it did. -/
def unpackKeepsUptoRow : OpenClaim := { program := "ytcdkgccmmfjnhaadoor", sum := "c231d2463316bdbd88af2abfb70f34d5dbf35eb217a5791279524fb460c009bb", func := "capnp/capnplaw22.UnpackKeeps", spec := "unpackKeeps", inPlace := ["internal/reflectlite.TypeOf"], unfollowed := true, recurses := true, named := ["capnp/unpack.errLimit", "capnp/unpack.errTruncated"], apart := false, laid := [("capnp/unpack.errTruncated", laid_capnp_unpack_errTruncated), ("capnp/unpack.errLimit", laid_capnp_unpack_errLimit)], narrowed := true }
def UnpackKeepsUptoSaid : Prop := unpackKeepsUptoRow.holds Tryd.pinned (OpenSpec.upto unpackKeepsSpec)

end Rows
end Go.Proofs.YtcdkgccmmfjnhaaDoor
