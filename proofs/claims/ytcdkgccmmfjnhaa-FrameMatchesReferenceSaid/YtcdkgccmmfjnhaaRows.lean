/-
  No cell of these rows narrows 'for every input' (looked for: loops, veiled, ifaces, maps, wideKeys, modest, calm, conditions, laid).
  DERIVED. THE GIVEN ROWS OF THIS SEAT. 5 by the template 'for every input the law returns true; each argument reads behind the call as it read before'; 0 by the template 'total and deterministic' (their statements: YtcdkgccmmfjnhaaTotals.lean).
  GIVEN WITH THE SEED: the statements are not yours to turn. If you find one false, say at which input.
  Laid BY PROGRAM, IN A SANDBOX (cutbox-rows.mjs): the forced cells as the released guide's own fill.sh prints them over the translation c1672a961dcc87d1… (all of the seat's roots in one cut). By AI agents, Wed Nov 11 2026. No macro, syntax, notation, axiom, sorry.
-/
import Derived.Test.YtcdkgccmmfjnhaaChecked
import GoSem.Claim
import GoSem.ClaimJoined
import GoSem.ClaimMapViews
import Derived.JoinedTies
import Derived.KernelRfl
namespace Go.Proofs.Ytcdkgccmmfjnhaa
/- THE CELL 'sum', in the pinned program and in every row, IS THE sha256 OF THE DUMP (.gsa) THAT YtcdkgccmmfjnhaaProg.lean LOADS. Nothing in Lean hashes anything: it is a label: what it is worth is what the hold of that sum in a sandbox is worth. -/
noncomputable def Try.pinned : Pinned := { name := "ytcdkgccmmfjnhaa", sum := "c1672a961dcc87d19d40c75dacc8a4cc39caa13adad40a809848d8f356ba0175", checked := Try.checked }
namespace Rows
def none {H : Type} : Left H := { results := [], args := [] }

/-- 'capnplaw04.FrameMatchesReference': WHATEVER THE INPUT: true; the input reads as it did. -/
def frameMatchesReferenceSpec : ChangeSpec := { name := "frameMatchesReference", fn := fun _ => fun
  | [d1, d2, d3] => { results := [.lit (.bool true)], args := [d1, d2, d3] }
  | _ => none }
def frameMatchesReferenceRow : OpenClaim := { program := "ytcdkgccmmfjnhaa", sum := "c1672a961dcc87d19d40c75dacc8a4cc39caa13adad40a809848d8f356ba0175", func := "capnp/capnplaw04.FrameMatchesReference", spec := "frameMatchesReference", unfollowed := true, recurses := true, apart := false }
def FrameMatchesReferenceSaid : Prop := frameMatchesReferenceRow.holds Try.pinned (OpenSpec.ofChange frameMatchesReferenceSpec)

/-- ITS FALSE NEIGHBOUR: 'it returns false'. Refute it at one input. -/
def frameMatchesReferenceWrong : ChangeSpec := { name := "frameMatchesReference", fn := fun _ => fun
  | [d1, d2, d3] => { results := [.lit (.bool false)], args := [d1, d2, d3] }
  | _ => none }
def FrameMatchesReferenceWrongFalsely : Prop := frameMatchesReferenceRow.holds Try.pinned (OpenSpec.ofChange frameMatchesReferenceWrong)

/-- 'capnplaw04.FrameBijection': WHATEVER THE INPUT: true; the input reads as it did. -/
def frameBijectionSpec : ChangeSpec := { name := "frameBijection", fn := fun _ => fun
  | [d1, d2] => { results := [.lit (.bool true)], args := [d1, d2] }
  | _ => none }
def frameBijectionRow : OpenClaim := { program := "ytcdkgccmmfjnhaa", sum := "c1672a961dcc87d19d40c75dacc8a4cc39caa13adad40a809848d8f356ba0175", func := "capnp/capnplaw04.FrameBijection", spec := "frameBijection", unfollowed := true, recurses := true, apart := false }
def FrameBijectionSaid : Prop := frameBijectionRow.holds Try.pinned (OpenSpec.ofChange frameBijectionSpec)

/-- ITS FALSE NEIGHBOUR: 'it returns false'. Refute it at one input. -/
def frameBijectionWrong : ChangeSpec := { name := "frameBijection", fn := fun _ => fun
  | [d1, d2] => { results := [.lit (.bool false)], args := [d1, d2] }
  | _ => none }
def FrameBijectionWrongFalsely : Prop := frameBijectionRow.holds Try.pinned (OpenSpec.ofChange frameBijectionWrong)

/-- 'capnplaw04.FrameNoSlack': WHATEVER THE INPUT: true; the input reads as it did. -/
def frameNoSlackSpec : ChangeSpec := { name := "frameNoSlack", fn := fun _ => fun
  | [d1, d2, d3] => { results := [.lit (.bool true)], args := [d1, d2, d3] }
  | _ => none }
def frameNoSlackRow : OpenClaim := { program := "ytcdkgccmmfjnhaa", sum := "c1672a961dcc87d19d40c75dacc8a4cc39caa13adad40a809848d8f356ba0175", func := "capnp/capnplaw04.FrameNoSlack", spec := "frameNoSlack", unfollowed := true, recurses := true, apart := false }
def FrameNoSlackSaid : Prop := frameNoSlackRow.holds Try.pinned (OpenSpec.ofChange frameNoSlackSpec)

/-- ITS FALSE NEIGHBOUR: 'it returns false'. Refute it at one input. -/
def frameNoSlackWrong : ChangeSpec := { name := "frameNoSlack", fn := fun _ => fun
  | [d1, d2, d3] => { results := [.lit (.bool false)], args := [d1, d2, d3] }
  | _ => none }
def FrameNoSlackWrongFalsely : Prop := frameNoSlackRow.holds Try.pinned (OpenSpec.ofChange frameNoSlackWrong)

/-- 'capnplaw04.FrameDoesNotAlias': WHATEVER THE INPUT: true; the input reads as it did. -/
def frameDoesNotAliasSpec : ChangeSpec := { name := "frameDoesNotAlias", fn := fun _ => fun
  | [d1, d2] => { results := [.lit (.bool true)], args := [d1, d2] }
  | _ => none }
def frameDoesNotAliasRow : OpenClaim := { program := "ytcdkgccmmfjnhaa", sum := "c1672a961dcc87d19d40c75dacc8a4cc39caa13adad40a809848d8f356ba0175", func := "capnp/capnplaw04.FrameDoesNotAlias", spec := "frameDoesNotAlias", unfollowed := true, recurses := true, apart := false }
def FrameDoesNotAliasSaid : Prop := frameDoesNotAliasRow.holds Try.pinned (OpenSpec.ofChange frameDoesNotAliasSpec)

/-- ITS FALSE NEIGHBOUR: 'it returns false'. Refute it at one input. -/
def frameDoesNotAliasWrong : ChangeSpec := { name := "frameDoesNotAlias", fn := fun _ => fun
  | [d1, d2] => { results := [.lit (.bool false)], args := [d1, d2] }
  | _ => none }
def FrameDoesNotAliasWrongFalsely : Prop := frameDoesNotAliasRow.holds Try.pinned (OpenSpec.ofChange frameDoesNotAliasWrong)

/-- 'capnplaw04.FrameLength': WHATEVER THE INPUT: true; the input reads as it did. -/
def frameLengthSpec : ChangeSpec := { name := "frameLength", fn := fun _ => fun
  | [d] => { results := [.lit (.bool true)], args := [d] }
  | _ => none }
def frameLengthRow : OpenClaim := { program := "ytcdkgccmmfjnhaa", sum := "c1672a961dcc87d19d40c75dacc8a4cc39caa13adad40a809848d8f356ba0175", func := "capnp/capnplaw04.FrameLength", spec := "frameLength", unfollowed := true, recurses := true, apart := false }
def FrameLengthSaid : Prop := frameLengthRow.holds Try.pinned (OpenSpec.ofChange frameLengthSpec)

/-- ITS FALSE NEIGHBOUR: 'it returns false'. Refute it at one input. -/
def frameLengthWrong : ChangeSpec := { name := "frameLength", fn := fun _ => fun
  | [d] => { results := [.lit (.bool false)], args := [d] }
  | _ => none }
def FrameLengthWrongFalsely : Prop := frameLengthRow.holds Try.pinned (OpenSpec.ofChange frameLengthWrong)

/- THE SECOND FORM. 'bulk': how many values and letters a reading holds, each counted each time it is reached (what is shared counts as often as it is met; a slice's spare places count too). A statement '..UptoSaid' is the law's where the arguments, and the package variables that the reading takes, are together of bulk at most 1048576: NARROWER than '..Said'. Prove '..Said' where nothing that the law and all that it calls make is longer than what came in: it says more and counts as full. Else prove '..UptoSaid'. A law counts once. -/
mutual
def uptoBulk {H : Type} : DataW H → Nat
  | .lit (.string bytes) => bytes.length + 1
  | .lit _ => 1
  | .nil => 1
  | .ptr d => uptoBulk d + 1
  | .slice elems spare => uptoBulkAll elems + uptoBulkAll spare + 1
  | .agg parts => uptoBulkAll parts + 1
  | .iface _ d => uptoBulk d + 1
  | .map entries => uptoBulkEntries entries + 1
  | .held _ => 1
def uptoBulkAll {H : Type} : List (DataW H) → Nat
  | [] => 0
  | d :: r => uptoBulk d + uptoBulkAll r
def uptoBulkEntries {H : Type} : List (Lit × DataW H) → Nat
  | [] => 0
  | x :: r => uptoBulkEntry x + uptoBulkEntries r
def uptoBulkEntry {H : Type} : Lit × DataW H → Nat
  | (.string bytes, d) => bytes.length + uptoBulk d + 1
  | (_, d) => uptoBulk d + 1
 end
def uptoSmall : (H : Type) → List (DataW H) → Bool := fun _ ds => decide (uptoBulkAll ds ≤ 1048576)
def OpenSpec.upto (s : _root_.Go.ChangeSpec) : _root_.Go.OpenSpec := { _root_.Go.OpenSpec.ofChange s with cond := some uptoSmall }

/-- 'capnplaw04.FrameMatchesReference', WHERE WHAT IT READS IS OF BULK AT MOST 1048576: true; the input reads as it did. -/
def frameMatchesReferenceUptoRow : OpenClaim := { program := "ytcdkgccmmfjnhaa", sum := "c1672a961dcc87d19d40c75dacc8a4cc39caa13adad40a809848d8f356ba0175", func := "capnp/capnplaw04.FrameMatchesReference", spec := "frameMatchesReference", unfollowed := true, recurses := true, apart := false, narrowed := true }
def FrameMatchesReferenceUptoSaid : Prop := frameMatchesReferenceUptoRow.holds Try.pinned (OpenSpec.upto frameMatchesReferenceSpec)

/-- 'capnplaw04.FrameBijection', WHERE WHAT IT READS IS OF BULK AT MOST 1048576: true; the input reads as it did. -/
def frameBijectionUptoRow : OpenClaim := { program := "ytcdkgccmmfjnhaa", sum := "c1672a961dcc87d19d40c75dacc8a4cc39caa13adad40a809848d8f356ba0175", func := "capnp/capnplaw04.FrameBijection", spec := "frameBijection", unfollowed := true, recurses := true, apart := false, narrowed := true }
def FrameBijectionUptoSaid : Prop := frameBijectionUptoRow.holds Try.pinned (OpenSpec.upto frameBijectionSpec)

/-- 'capnplaw04.FrameNoSlack', WHERE WHAT IT READS IS OF BULK AT MOST 1048576: true; the input reads as it did. -/
def frameNoSlackUptoRow : OpenClaim := { program := "ytcdkgccmmfjnhaa", sum := "c1672a961dcc87d19d40c75dacc8a4cc39caa13adad40a809848d8f356ba0175", func := "capnp/capnplaw04.FrameNoSlack", spec := "frameNoSlack", unfollowed := true, recurses := true, apart := false, narrowed := true }
def FrameNoSlackUptoSaid : Prop := frameNoSlackUptoRow.holds Try.pinned (OpenSpec.upto frameNoSlackSpec)

/-- 'capnplaw04.FrameDoesNotAlias', WHERE WHAT IT READS IS OF BULK AT MOST 1048576: true; the input reads as it did. -/
def frameDoesNotAliasUptoRow : OpenClaim := { program := "ytcdkgccmmfjnhaa", sum := "c1672a961dcc87d19d40c75dacc8a4cc39caa13adad40a809848d8f356ba0175", func := "capnp/capnplaw04.FrameDoesNotAlias", spec := "frameDoesNotAlias", unfollowed := true, recurses := true, apart := false, narrowed := true }
def FrameDoesNotAliasUptoSaid : Prop := frameDoesNotAliasUptoRow.holds Try.pinned (OpenSpec.upto frameDoesNotAliasSpec)

/-- 'capnplaw04.FrameLength', WHERE WHAT IT READS IS OF BULK AT MOST 1048576: true; the input reads as it did. -/
def frameLengthUptoRow : OpenClaim := { program := "ytcdkgccmmfjnhaa", sum := "c1672a961dcc87d19d40c75dacc8a4cc39caa13adad40a809848d8f356ba0175", func := "capnp/capnplaw04.FrameLength", spec := "frameLength", unfollowed := true, recurses := true, apart := false, narrowed := true }
def FrameLengthUptoSaid : Prop := frameLengthUptoRow.holds Try.pinned (OpenSpec.upto frameLengthSpec)

end Rows
end Go.Proofs.Ytcdkgccmmfjnhaa
