/-
  NARROWER THAN 'FOR EVERY INPUT', by the rows' own cells (each row's printed sentence says how): UnpackstreamMatchesReference: laid · UnpackstreamChunks: laid · UnpackstreamSplit: laid · UnpackstreamHolds: laid · UnpackstreamRoundTrip: laid.
  DERIVED. THE GIVEN ROWS OF THIS SEAT. 5 by the template 'for every input the law returns true; each argument reads behind the call as it read before'; 0 by the template 'total and deterministic' (their statements: YtpffoecblcfndaaDoorTotals.lean).
  GIVEN WITH THE SEED: the statements are not yours to turn. If you find one false, say at which input.
  Laid BY PROGRAM, IN A SANDBOX (cutbox-rows.mjs): the forced cells as the released guide's own fill.sh prints them over the translation 8777f30b4d226186… (all of the seat's roots in one cut). By AI agents, Wed Nov 11 2026. No macro, syntax, notation, axiom, sorry.
-/
import Derived.Test.YtpffoecblcfndaaDoorChecked
import GoSem.Claim
import GoSem.ClaimJoined
import GoSem.ClaimMapViews
import Derived.JoinedTies
import Derived.KernelRfl
namespace Go.Proofs.YtpffoecblcfndaaDoor
/- THE CELL 'sum', in the pinned program and in every row, IS THE sha256 OF THE DUMP (.gsa) THAT YtpffoecblcfndaaDoorProg.lean LOADS. Nothing in Lean hashes anything: it is a label: what it is worth is what the hold of that sum in a sandbox is worth. -/
noncomputable def Tryd.pinned : Pinned := { name := "ytpffoecblcfndaadoor", sum := "8777f30b4d22618610eedad2b7ea9f92ab770f1c5473b80c95370385f029a713", checked := Tryd.checked }
namespace Rows
def none {H : Type} : Left H := { results := [], args := [] }

/- WHAT THE LISTED PACKAGE-LEVEL VARIABLES READ AS WHEN THE CALL BEGINS. Each datum BY PROGRAM (the guide's laid-datum.mjs) off the statement by which the dump's own 'gosem.cut.vars' lays the variable. In a bare row this is a premise. The card (YtpffoecblcfndaaDoorCards.lean) ties it to the program's text. -/
def laid_capnp_unpackstream_steps {H : Type} : DataW H := .iface "func table" (.agg [.iface "func" (.lit (.string [40, 42, 99, 97, 112, 110, 112, 47, 117, 110, 112, 97, 99, 107, 115, 116, 114, 101, 97, 109, 46, 114, 101, 97, 100, 101, 114, 41, 46, 116, 97, 103])), .iface "func" (.lit (.string [40, 42, 99, 97, 112, 110, 112, 47, 117, 110, 112, 97, 99, 107, 115, 116, 114, 101, 97, 109, 46, 114, 101, 97, 100, 101, 114, 41, 46, 116, 97, 103, 103, 101, 100])), .iface "func" (.lit (.string [40, 42, 99, 97, 112, 110, 112, 47, 117, 110, 112, 97, 99, 107, 115, 116, 114, 101, 97, 109, 46, 114, 101, 97, 100, 101, 114, 41, 46, 122, 101, 114, 111, 115])), .iface "func" (.lit (.string [40, 42, 99, 97, 112, 110, 112, 47, 117, 110, 112, 97, 99, 107, 115, 116, 114, 101, 97, 109, 46, 114, 101, 97, 100, 101, 114, 41, 46, 99, 111, 117, 110, 116])), .iface "func" (.lit (.string [40, 42, 99, 97, 112, 110, 112, 47, 117, 110, 112, 97, 99, 107, 115, 116, 114, 101, 97, 109, 46, 114, 101, 97, 100, 101, 114, 41, 46, 108, 105, 116, 101, 114, 97, 108]))])

/-- 'capnplaw25.UnpackstreamMatchesReference': WHATEVER THE INPUT: true; the input reads as it did. -/
def unpackstreamMatchesReferenceSpec : ChangeSpec := { name := "unpackstreamMatchesReference", fn := fun _ => fun
  | [d1, d2, d3] => { results := [.lit (.bool true)], args := [d1, d2, d3] }
  | _ => none }
def unpackstreamMatchesReferenceRow : OpenClaim := { program := "ytpffoecblcfndaadoor", sum := "8777f30b4d22618610eedad2b7ea9f92ab770f1c5473b80c95370385f029a713", func := "capnp/capnplaw25.UnpackstreamMatchesReference", spec := "unpackstreamMatchesReference", unfollowed := true, recurses := true, named := ["capnp/unpackstream.steps"], apart := false, laid := [("capnp/unpackstream.steps", laid_capnp_unpackstream_steps)] }
def UnpackstreamMatchesReferenceSaid : Prop := unpackstreamMatchesReferenceRow.holds Tryd.pinned (OpenSpec.ofChange unpackstreamMatchesReferenceSpec)

/-- ITS FALSE NEIGHBOUR: 'it returns false'. Refute it at one input. -/
def unpackstreamMatchesReferenceWrong : ChangeSpec := { name := "unpackstreamMatchesReference", fn := fun _ => fun
  | [d1, d2, d3] => { results := [.lit (.bool false)], args := [d1, d2, d3] }
  | _ => none }
def UnpackstreamMatchesReferenceWrongFalsely : Prop := unpackstreamMatchesReferenceRow.holds Tryd.pinned (OpenSpec.ofChange unpackstreamMatchesReferenceWrong)

/-- 'capnplaw25.UnpackstreamChunks': WHATEVER THE INPUT: true; the input reads as it did. -/
def unpackstreamChunksSpec : ChangeSpec := { name := "unpackstreamChunks", fn := fun _ => fun
  | [d1, d2] => { results := [.lit (.bool true)], args := [d1, d2] }
  | _ => none }
def unpackstreamChunksRow : OpenClaim := { program := "ytpffoecblcfndaadoor", sum := "8777f30b4d22618610eedad2b7ea9f92ab770f1c5473b80c95370385f029a713", func := "capnp/capnplaw25.UnpackstreamChunks", spec := "unpackstreamChunks", unfollowed := true, recurses := true, named := ["capnp/unpackstream.steps"], apart := false, laid := [("capnp/unpackstream.steps", laid_capnp_unpackstream_steps)] }
def UnpackstreamChunksSaid : Prop := unpackstreamChunksRow.holds Tryd.pinned (OpenSpec.ofChange unpackstreamChunksSpec)

/-- ITS FALSE NEIGHBOUR: 'it returns false'. Refute it at one input. -/
def unpackstreamChunksWrong : ChangeSpec := { name := "unpackstreamChunks", fn := fun _ => fun
  | [d1, d2] => { results := [.lit (.bool false)], args := [d1, d2] }
  | _ => none }
def UnpackstreamChunksWrongFalsely : Prop := unpackstreamChunksRow.holds Tryd.pinned (OpenSpec.ofChange unpackstreamChunksWrong)

/-- 'capnplaw25.UnpackstreamSplit': WHATEVER THE INPUT: true; the input reads as it did. -/
def unpackstreamSplitSpec : ChangeSpec := { name := "unpackstreamSplit", fn := fun _ => fun
  | [d1, d2, d3, d4] => { results := [.lit (.bool true)], args := [d1, d2, d3, d4] }
  | _ => none }
def unpackstreamSplitRow : OpenClaim := { program := "ytpffoecblcfndaadoor", sum := "8777f30b4d22618610eedad2b7ea9f92ab770f1c5473b80c95370385f029a713", func := "capnp/capnplaw25.UnpackstreamSplit", spec := "unpackstreamSplit", unfollowed := true, recurses := true, named := ["capnp/unpackstream.steps"], apart := false, laid := [("capnp/unpackstream.steps", laid_capnp_unpackstream_steps)] }
def UnpackstreamSplitSaid : Prop := unpackstreamSplitRow.holds Tryd.pinned (OpenSpec.ofChange unpackstreamSplitSpec)

/-- ITS FALSE NEIGHBOUR: 'it returns false'. Refute it at one input. -/
def unpackstreamSplitWrong : ChangeSpec := { name := "unpackstreamSplit", fn := fun _ => fun
  | [d1, d2, d3, d4] => { results := [.lit (.bool false)], args := [d1, d2, d3, d4] }
  | _ => none }
def UnpackstreamSplitWrongFalsely : Prop := unpackstreamSplitRow.holds Tryd.pinned (OpenSpec.ofChange unpackstreamSplitWrong)

/-- 'capnplaw25.UnpackstreamHolds': WHATEVER THE INPUT: true; the input reads as it did. -/
def unpackstreamHoldsSpec : ChangeSpec := { name := "unpackstreamHolds", fn := fun _ => fun
  | [d1, d2] => { results := [.lit (.bool true)], args := [d1, d2] }
  | _ => none }
def unpackstreamHoldsRow : OpenClaim := { program := "ytpffoecblcfndaadoor", sum := "8777f30b4d22618610eedad2b7ea9f92ab770f1c5473b80c95370385f029a713", func := "capnp/capnplaw25.UnpackstreamHolds", spec := "unpackstreamHolds", unfollowed := true, recurses := true, named := ["capnp/unpackstream.steps"], apart := false, laid := [("capnp/unpackstream.steps", laid_capnp_unpackstream_steps)] }
def UnpackstreamHoldsSaid : Prop := unpackstreamHoldsRow.holds Tryd.pinned (OpenSpec.ofChange unpackstreamHoldsSpec)

/-- ITS FALSE NEIGHBOUR: 'it returns false'. Refute it at one input. -/
def unpackstreamHoldsWrong : ChangeSpec := { name := "unpackstreamHolds", fn := fun _ => fun
  | [d1, d2] => { results := [.lit (.bool false)], args := [d1, d2] }
  | _ => none }
def UnpackstreamHoldsWrongFalsely : Prop := unpackstreamHoldsRow.holds Tryd.pinned (OpenSpec.ofChange unpackstreamHoldsWrong)

/-- 'capnplaw25.UnpackstreamRoundTrip': WHATEVER THE INPUT: true; the input reads as it did. -/
def unpackstreamRoundTripSpec : ChangeSpec := { name := "unpackstreamRoundTrip", fn := fun _ => fun
  | [d1, d2] => { results := [.lit (.bool true)], args := [d1, d2] }
  | _ => none }
def unpackstreamRoundTripRow : OpenClaim := { program := "ytpffoecblcfndaadoor", sum := "8777f30b4d22618610eedad2b7ea9f92ab770f1c5473b80c95370385f029a713", func := "capnp/capnplaw25.UnpackstreamRoundTrip", spec := "unpackstreamRoundTrip", unfollowed := true, recurses := true, named := ["capnp/unpackstream.steps"], apart := false, laid := [("capnp/unpackstream.steps", laid_capnp_unpackstream_steps)] }
def UnpackstreamRoundTripSaid : Prop := unpackstreamRoundTripRow.holds Tryd.pinned (OpenSpec.ofChange unpackstreamRoundTripSpec)

/-- ITS FALSE NEIGHBOUR: 'it returns false'. Refute it at one input. -/
def unpackstreamRoundTripWrong : ChangeSpec := { name := "unpackstreamRoundTrip", fn := fun _ => fun
  | [d1, d2] => { results := [.lit (.bool false)], args := [d1, d2] }
  | _ => none }
def UnpackstreamRoundTripWrongFalsely : Prop := unpackstreamRoundTripRow.holds Tryd.pinned (OpenSpec.ofChange unpackstreamRoundTripWrong)

/- THE SECOND FORM. 'bulk': how many values and letters a reading holds, each counted each time it is reached (what is shared counts as often as it is met; a slice's spare places count too). A statement '..UptoSaid' is the law's where the arguments, and the package variables that the reading takes, are together of bulk at most 1048576: NARROWER than '..Said'. Prove '..Said' where nothing that the law and all that it calls make is longer than what came in: it says more and counts as full. Else prove '..UptoSaid'. A law counts once. -/
mutual
def uptoBulk {H : Type} : DataW H → Nat
  | .lit (.string bytes) => bytes.length + 1
  | .lit _ => 1
  | .nil => 1
  | .ptr d => uptoBulk d + 1
  | .slice elems spare => uptoBulkAll elems + uptoBulkAll spare + 1
  | .agg parts => uptoBulkAll parts + 1
  | .iface _ d => uptoBulk d + 1
  | .map entries => uptoBulkEntries entries + 1
  | .held _ => 1
def uptoBulkAll {H : Type} : List (DataW H) → Nat
  | [] => 0
  | d :: r => uptoBulk d + uptoBulkAll r
def uptoBulkEntries {H : Type} : List (Lit × DataW H) → Nat
  | [] => 0
  | x :: r => uptoBulkEntry x + uptoBulkEntries r
def uptoBulkEntry {H : Type} : Lit × DataW H → Nat
  | (.string bytes, d) => bytes.length + uptoBulk d + 1
  | (_, d) => uptoBulk d + 1
 end
def uptoSmall : (H : Type) → List (DataW H) → Bool := fun _ ds => decide (uptoBulkAll ds ≤ 1048576)
def OpenSpec.upto (s : _root_.Go.ChangeSpec) : _root_.Go.OpenSpec := { _root_.Go.OpenSpec.ofChange s with cond := some uptoSmall }

/-- 'capnplaw25.UnpackstreamMatchesReference', WHERE WHAT IT READS IS OF BULK AT MOST 1048576: true; the input reads as it did. -/
def unpackstreamMatchesReferenceUptoRow : OpenClaim := { program := "ytpffoecblcfndaadoor", sum := "8777f30b4d22618610eedad2b7ea9f92ab770f1c5473b80c95370385f029a713", func := "capnp/capnplaw25.UnpackstreamMatchesReference", spec := "unpackstreamMatchesReference", unfollowed := true, recurses := true, named := ["capnp/unpackstream.steps"], apart := false, laid := [("capnp/unpackstream.steps", laid_capnp_unpackstream_steps)], narrowed := true }
def UnpackstreamMatchesReferenceUptoSaid : Prop := unpackstreamMatchesReferenceUptoRow.holds Tryd.pinned (OpenSpec.upto unpackstreamMatchesReferenceSpec)

/-- 'capnplaw25.UnpackstreamChunks', WHERE WHAT IT READS IS OF BULK AT MOST 1048576: true; the input reads as it did. -/
def unpackstreamChunksUptoRow : OpenClaim := { program := "ytpffoecblcfndaadoor", sum := "8777f30b4d22618610eedad2b7ea9f92ab770f1c5473b80c95370385f029a713", func := "capnp/capnplaw25.UnpackstreamChunks", spec := "unpackstreamChunks", unfollowed := true, recurses := true, named := ["capnp/unpackstream.steps"], apart := false, laid := [("capnp/unpackstream.steps", laid_capnp_unpackstream_steps)], narrowed := true }
def UnpackstreamChunksUptoSaid : Prop := unpackstreamChunksUptoRow.holds Tryd.pinned (OpenSpec.upto unpackstreamChunksSpec)

/-- 'capnplaw25.UnpackstreamSplit', WHERE WHAT IT READS IS OF BULK AT MOST 1048576: true; the input reads as it did. -/
def unpackstreamSplitUptoRow : OpenClaim := { program := "ytpffoecblcfndaadoor", sum := "8777f30b4d22618610eedad2b7ea9f92ab770f1c5473b80c95370385f029a713", func := "capnp/capnplaw25.UnpackstreamSplit", spec := "unpackstreamSplit", unfollowed := true, recurses := true, named := ["capnp/unpackstream.steps"], apart := false, laid := [("capnp/unpackstream.steps", laid_capnp_unpackstream_steps)], narrowed := true }
def UnpackstreamSplitUptoSaid : Prop := unpackstreamSplitUptoRow.holds Tryd.pinned (OpenSpec.upto unpackstreamSplitSpec)

/-- 'capnplaw25.UnpackstreamHolds', WHERE WHAT IT READS IS OF BULK AT MOST 1048576: true; the input reads as it did. -/
def unpackstreamHoldsUptoRow : OpenClaim := { program := "ytpffoecblcfndaadoor", sum := "8777f30b4d22618610eedad2b7ea9f92ab770f1c5473b80c95370385f029a713", func := "capnp/capnplaw25.UnpackstreamHolds", spec := "unpackstreamHolds", unfollowed := true, recurses := true, named := ["capnp/unpackstream.steps"], apart := false, laid := [("capnp/unpackstream.steps", laid_capnp_unpackstream_steps)], narrowed := true }
def UnpackstreamHoldsUptoSaid : Prop := unpackstreamHoldsUptoRow.holds Tryd.pinned (OpenSpec.upto unpackstreamHoldsSpec)

/-- 'capnplaw25.UnpackstreamRoundTrip', WHERE WHAT IT READS IS OF BULK AT MOST 1048576: true; the input reads as it did. -/
def unpackstreamRoundTripUptoRow : OpenClaim := { program := "ytpffoecblcfndaadoor", sum := "8777f30b4d22618610eedad2b7ea9f92ab770f1c5473b80c95370385f029a713", func := "capnp/capnplaw25.UnpackstreamRoundTrip", spec := "unpackstreamRoundTrip", unfollowed := true, recurses := true, named := ["capnp/unpackstream.steps"], apart := false, laid := [("capnp/unpackstream.steps", laid_capnp_unpackstream_steps)], narrowed := true }
def UnpackstreamRoundTripUptoSaid : Prop := unpackstreamRoundTripUptoRow.holds Tryd.pinned (OpenSpec.upto unpackstreamRoundTripSpec)

end Rows
end Go.Proofs.YtpffoecblcfndaaDoor
