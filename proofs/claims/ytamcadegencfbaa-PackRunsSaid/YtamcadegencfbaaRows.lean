/-
  No cell of these rows narrows 'for every input' (looked for: loops, veiled, ifaces, maps, wideKeys, modest, calm, conditions, laid).
  DERIVED. THE GIVEN ROWS OF THIS SEAT. 11 by the template 'for every input the law returns true; each argument reads behind the call as it read before'; 0 by the template 'total and deterministic' (their statements: YtamcadegencfbaaTotals.lean).
  GIVEN WITH THE SEED: the statements are not yours to turn. If you find one false, say at which input.
  Laid BY PROGRAM, IN A SANDBOX (cutbox-rows.mjs): the forced cells as the released guide's own fill.sh prints them over the translation 5d31399fcc98be5e… (all of the seat's roots in one cut). By AI agents, Wed Nov 11 2026. No macro, syntax, notation, axiom, sorry.
-/
import Derived.Test.YtamcadegencfbaaChecked
import GoSem.Claim
import GoSem.ClaimJoined
import GoSem.ClaimMapViews
import Derived.JoinedTies
import Derived.KernelRfl
namespace Go.Proofs.Ytamcadegencfbaa
/- THE CELL 'sum', in the pinned program and in every row, IS THE sha256 OF THE DUMP (.gsa) THAT YtamcadegencfbaaProg.lean LOADS. Nothing in Lean hashes anything: it is a label: what it is worth is what the hold of that sum in a sandbox is worth. -/
noncomputable def Try.pinned : Pinned := { name := "ytamcadegencfbaa", sum := "5d31399fcc98be5e9c6c89bba100ed5db23ed0578e159e68deabdbd00122aa3a", checked := Try.checked }
namespace Rows
def none {H : Type} : Left H := { results := [], args := [] }

/-- 'capnplaw20.TagbyteMatchesReference': WHATEVER THE INPUT: true; the input reads as it did. -/
def tagbyteMatchesReferenceSpec : ChangeSpec := { name := "tagbyteMatchesReference", fn := fun _ => fun
  | [d1, d2, d3] => { results := [.lit (.bool true)], args := [d1, d2, d3] }
  | _ => none }
def tagbyteMatchesReferenceRow : OpenClaim := { program := "ytamcadegencfbaa", sum := "5d31399fcc98be5e9c6c89bba100ed5db23ed0578e159e68deabdbd00122aa3a", func := "capnp/capnplaw20.TagbyteMatchesReference", spec := "tagbyteMatchesReference", apart := false }
def TagbyteMatchesReferenceSaid : Prop := tagbyteMatchesReferenceRow.holds Try.pinned (OpenSpec.ofChange tagbyteMatchesReferenceSpec)

/-- ITS FALSE NEIGHBOUR: 'it returns false'. Refute it at one input. -/
def tagbyteMatchesReferenceWrong : ChangeSpec := { name := "tagbyteMatchesReference", fn := fun _ => fun
  | [d1, d2, d3] => { results := [.lit (.bool false)], args := [d1, d2, d3] }
  | _ => none }
def TagbyteMatchesReferenceWrongFalsely : Prop := tagbyteMatchesReferenceRow.holds Try.pinned (OpenSpec.ofChange tagbyteMatchesReferenceWrong)

/-- 'capnplaw20.TagbyteRoundTrip': WHATEVER THE INPUT: true; the input reads as it did. -/
def tagbyteRoundTripSpec : ChangeSpec := { name := "tagbyteRoundTrip", fn := fun _ => fun
  | [d1, d2] => { results := [.lit (.bool true)], args := [d1, d2] }
  | _ => none }
def tagbyteRoundTripRow : OpenClaim := { program := "ytamcadegencfbaa", sum := "5d31399fcc98be5e9c6c89bba100ed5db23ed0578e159e68deabdbd00122aa3a", func := "capnp/capnplaw20.TagbyteRoundTrip", spec := "tagbyteRoundTrip", apart := false }
def TagbyteRoundTripSaid : Prop := tagbyteRoundTripRow.holds Try.pinned (OpenSpec.ofChange tagbyteRoundTripSpec)

/-- ITS FALSE NEIGHBOUR: 'it returns false'. Refute it at one input. -/
def tagbyteRoundTripWrong : ChangeSpec := { name := "tagbyteRoundTrip", fn := fun _ => fun
  | [d1, d2] => { results := [.lit (.bool false)], args := [d1, d2] }
  | _ => none }
def TagbyteRoundTripWrongFalsely : Prop := tagbyteRoundTripRow.holds Try.pinned (OpenSpec.ofChange tagbyteRoundTripWrong)

/-- 'capnplaw20.TagbyteExpand': WHATEVER THE INPUT: true; the input reads as it did. -/
def tagbyteExpandSpec : ChangeSpec := { name := "tagbyteExpand", fn := fun _ => fun
  | [d1, d2] => { results := [.lit (.bool true)], args := [d1, d2] }
  | _ => none }
def tagbyteExpandRow : OpenClaim := { program := "ytamcadegencfbaa", sum := "5d31399fcc98be5e9c6c89bba100ed5db23ed0578e159e68deabdbd00122aa3a", func := "capnp/capnplaw20.TagbyteExpand", spec := "tagbyteExpand", apart := false }
def TagbyteExpandSaid : Prop := tagbyteExpandRow.holds Try.pinned (OpenSpec.ofChange tagbyteExpandSpec)

/-- ITS FALSE NEIGHBOUR: 'it returns false'. Refute it at one input. -/
def tagbyteExpandWrong : ChangeSpec := { name := "tagbyteExpand", fn := fun _ => fun
  | [d1, d2] => { results := [.lit (.bool false)], args := [d1, d2] }
  | _ => none }
def TagbyteExpandWrongFalsely : Prop := tagbyteExpandRow.holds Try.pinned (OpenSpec.ofChange tagbyteExpandWrong)

/-- 'capnplaw20.TagbyteDense': WHATEVER THE INPUT: true; the input reads as it did. -/
def tagbyteDenseSpec : ChangeSpec := { name := "tagbyteDense", fn := fun _ => fun
  | [d] => { results := [.lit (.bool true)], args := [d] }
  | _ => none }
def tagbyteDenseRow : OpenClaim := { program := "ytamcadegencfbaa", sum := "5d31399fcc98be5e9c6c89bba100ed5db23ed0578e159e68deabdbd00122aa3a", func := "capnp/capnplaw20.TagbyteDense", spec := "tagbyteDense", apart := false }
def TagbyteDenseSaid : Prop := tagbyteDenseRow.holds Try.pinned (OpenSpec.ofChange tagbyteDenseSpec)

/-- ITS FALSE NEIGHBOUR: 'it returns false'. Refute it at one input. -/
def tagbyteDenseWrong : ChangeSpec := { name := "tagbyteDense", fn := fun _ => fun
  | [d] => { results := [.lit (.bool false)], args := [d] }
  | _ => none }
def TagbyteDenseWrongFalsely : Prop := tagbyteDenseRow.holds Try.pinned (OpenSpec.ofChange tagbyteDenseWrong)

/-- 'capnplaw20.TagbyteKeeps': WHATEVER THE INPUT: true; the input reads as it did. -/
def tagbyteKeepsSpec : ChangeSpec := { name := "tagbyteKeeps", fn := fun _ => fun
  | [d1, d2, d3] => { results := [.lit (.bool true)], args := [d1, d2, d3] }
  | _ => none }
def tagbyteKeepsRow : OpenClaim := { program := "ytamcadegencfbaa", sum := "5d31399fcc98be5e9c6c89bba100ed5db23ed0578e159e68deabdbd00122aa3a", func := "capnp/capnplaw20.TagbyteKeeps", spec := "tagbyteKeeps", apart := false }
def TagbyteKeepsSaid : Prop := tagbyteKeepsRow.holds Try.pinned (OpenSpec.ofChange tagbyteKeepsSpec)

/-- ITS FALSE NEIGHBOUR: 'it returns false'. Refute it at one input. -/
def tagbyteKeepsWrong : ChangeSpec := { name := "tagbyteKeeps", fn := fun _ => fun
  | [d1, d2, d3] => { results := [.lit (.bool false)], args := [d1, d2, d3] }
  | _ => none }
def TagbyteKeepsWrongFalsely : Prop := tagbyteKeepsRow.holds Try.pinned (OpenSpec.ofChange tagbyteKeepsWrong)

/-- 'capnplaw21.PackMatchesReference': WHATEVER THE INPUT: true; the input reads as it did. -/
def packMatchesReferenceSpec : ChangeSpec := { name := "packMatchesReference", fn := fun _ => fun
  | [d1, d2, d3] => { results := [.lit (.bool true)], args := [d1, d2, d3] }
  | _ => none }
def packMatchesReferenceRow : OpenClaim := { program := "ytamcadegencfbaa", sum := "5d31399fcc98be5e9c6c89bba100ed5db23ed0578e159e68deabdbd00122aa3a", func := "capnp/capnplaw21.PackMatchesReference", spec := "packMatchesReference", unfollowed := true, recurses := true, apart := false }
def PackMatchesReferenceSaid : Prop := packMatchesReferenceRow.holds Try.pinned (OpenSpec.ofChange packMatchesReferenceSpec)

/-- ITS FALSE NEIGHBOUR: 'it returns false'. Refute it at one input. -/
def packMatchesReferenceWrong : ChangeSpec := { name := "packMatchesReference", fn := fun _ => fun
  | [d1, d2, d3] => { results := [.lit (.bool false)], args := [d1, d2, d3] }
  | _ => none }
def PackMatchesReferenceWrongFalsely : Prop := packMatchesReferenceRow.holds Try.pinned (OpenSpec.ofChange packMatchesReferenceWrong)

/-- 'capnplaw21.PackBounded': WHATEVER THE INPUT: true; the input reads as it did. -/
def packBoundedSpec : ChangeSpec := { name := "packBounded", fn := fun _ => fun
  | [d] => { results := [.lit (.bool true)], args := [d] }
  | _ => none }
def packBoundedRow : OpenClaim := { program := "ytamcadegencfbaa", sum := "5d31399fcc98be5e9c6c89bba100ed5db23ed0578e159e68deabdbd00122aa3a", func := "capnp/capnplaw21.PackBounded", spec := "packBounded", unfollowed := true, recurses := true, apart := false }
def PackBoundedSaid : Prop := packBoundedRow.holds Try.pinned (OpenSpec.ofChange packBoundedSpec)

/-- ITS FALSE NEIGHBOUR: 'it returns false'. Refute it at one input. -/
def packBoundedWrong : ChangeSpec := { name := "packBounded", fn := fun _ => fun
  | [d] => { results := [.lit (.bool false)], args := [d] }
  | _ => none }
def PackBoundedWrongFalsely : Prop := packBoundedRow.holds Try.pinned (OpenSpec.ofChange packBoundedWrong)

/-- 'capnplaw21.PackGroups': WHATEVER THE INPUT: true; the input reads as it did. -/
def packGroupsSpec : ChangeSpec := { name := "packGroups", fn := fun _ => fun
  | [d1, d2] => { results := [.lit (.bool true)], args := [d1, d2] }
  | _ => none }
def packGroupsRow : OpenClaim := { program := "ytamcadegencfbaa", sum := "5d31399fcc98be5e9c6c89bba100ed5db23ed0578e159e68deabdbd00122aa3a", func := "capnp/capnplaw21.PackGroups", spec := "packGroups", unfollowed := true, recurses := true, apart := false }
def PackGroupsSaid : Prop := packGroupsRow.holds Try.pinned (OpenSpec.ofChange packGroupsSpec)

/-- ITS FALSE NEIGHBOUR: 'it returns false'. Refute it at one input. -/
def packGroupsWrong : ChangeSpec := { name := "packGroups", fn := fun _ => fun
  | [d1, d2] => { results := [.lit (.bool false)], args := [d1, d2] }
  | _ => none }
def PackGroupsWrongFalsely : Prop := packGroupsRow.holds Try.pinned (OpenSpec.ofChange packGroupsWrong)

/-- 'capnplaw21.PackRuns': WHATEVER THE INPUT: true; the input reads as it did. -/
def packRunsSpec : ChangeSpec := { name := "packRuns", fn := fun _ => fun
  | [d1, d2] => { results := [.lit (.bool true)], args := [d1, d2] }
  | _ => none }
def packRunsRow : OpenClaim := { program := "ytamcadegencfbaa", sum := "5d31399fcc98be5e9c6c89bba100ed5db23ed0578e159e68deabdbd00122aa3a", func := "capnp/capnplaw21.PackRuns", spec := "packRuns", unfollowed := true, recurses := true, apart := false }
def PackRunsSaid : Prop := packRunsRow.holds Try.pinned (OpenSpec.ofChange packRunsSpec)

/-- ITS FALSE NEIGHBOUR: 'it returns false'. Refute it at one input. -/
def packRunsWrong : ChangeSpec := { name := "packRuns", fn := fun _ => fun
  | [d1, d2] => { results := [.lit (.bool false)], args := [d1, d2] }
  | _ => none }
def PackRunsWrongFalsely : Prop := packRunsRow.holds Try.pinned (OpenSpec.ofChange packRunsWrong)

/-- 'capnplaw21.PackInjective': WHATEVER THE INPUT: true; the input reads as it did. -/
def packInjectiveSpec : ChangeSpec := { name := "packInjective", fn := fun _ => fun
  | [d1, d2] => { results := [.lit (.bool true)], args := [d1, d2] }
  | _ => none }
def packInjectiveRow : OpenClaim := { program := "ytamcadegencfbaa", sum := "5d31399fcc98be5e9c6c89bba100ed5db23ed0578e159e68deabdbd00122aa3a", func := "capnp/capnplaw21.PackInjective", spec := "packInjective", unfollowed := true, recurses := true, apart := false }
def PackInjectiveSaid : Prop := packInjectiveRow.holds Try.pinned (OpenSpec.ofChange packInjectiveSpec)

/-- ITS FALSE NEIGHBOUR: 'it returns false'. Refute it at one input. -/
def packInjectiveWrong : ChangeSpec := { name := "packInjective", fn := fun _ => fun
  | [d1, d2] => { results := [.lit (.bool false)], args := [d1, d2] }
  | _ => none }
def PackInjectiveWrongFalsely : Prop := packInjectiveRow.holds Try.pinned (OpenSpec.ofChange packInjectiveWrong)

/-- 'capnplaw21.PackKeeps': WHATEVER THE INPUT: true; the input reads as it did. -/
def packKeepsSpec : ChangeSpec := { name := "packKeeps", fn := fun _ => fun
  | [d1, d2] => { results := [.lit (.bool true)], args := [d1, d2] }
  | _ => none }
def packKeepsRow : OpenClaim := { program := "ytamcadegencfbaa", sum := "5d31399fcc98be5e9c6c89bba100ed5db23ed0578e159e68deabdbd00122aa3a", func := "capnp/capnplaw21.PackKeeps", spec := "packKeeps", unfollowed := true, recurses := true, apart := false }
def PackKeepsSaid : Prop := packKeepsRow.holds Try.pinned (OpenSpec.ofChange packKeepsSpec)

/-- ITS FALSE NEIGHBOUR: 'it returns false'. Refute it at one input. -/
def packKeepsWrong : ChangeSpec := { name := "packKeeps", fn := fun _ => fun
  | [d1, d2] => { results := [.lit (.bool false)], args := [d1, d2] }
  | _ => none }
def PackKeepsWrongFalsely : Prop := packKeepsRow.holds Try.pinned (OpenSpec.ofChange packKeepsWrong)

/- THE SECOND FORM. 'bulk': how many values and letters a reading holds, each counted each time it is reached (what is shared counts as often as it is met; a slice's spare places count too). A statement '..UptoSaid' is the law's where the arguments, and the package variables that the reading takes, are together of bulk at most 1048576: NARROWER than '..Said'. Prove '..Said' where nothing that the law and all that it calls make is longer than what came in: it says more and counts as full. Else prove '..UptoSaid'. A law counts once. -/
mutual
def uptoBulk {H : Type} : DataW H → Nat
  | .lit (.string bytes) => bytes.length + 1
  | .lit _ => 1
  | .nil => 1
  | .ptr d => uptoBulk d + 1
  | .slice elems spare => uptoBulkAll elems + uptoBulkAll spare + 1
  | .agg parts => uptoBulkAll parts + 1
  | .iface _ d => uptoBulk d + 1
  | .map entries => uptoBulkEntries entries + 1
  | .held _ => 1
def uptoBulkAll {H : Type} : List (DataW H) → Nat
  | [] => 0
  | d :: r => uptoBulk d + uptoBulkAll r
def uptoBulkEntries {H : Type} : List (Lit × DataW H) → Nat
  | [] => 0
  | x :: r => uptoBulkEntry x + uptoBulkEntries r
def uptoBulkEntry {H : Type} : Lit × DataW H → Nat
  | (.string bytes, d) => bytes.length + uptoBulk d + 1
  | (_, d) => uptoBulk d + 1
 end
def uptoSmall : (H : Type) → List (DataW H) → Bool := fun _ ds => decide (uptoBulkAll ds ≤ 1048576)
def OpenSpec.upto (s : _root_.Go.ChangeSpec) : _root_.Go.OpenSpec := { _root_.Go.OpenSpec.ofChange s with cond := some uptoSmall }

/-- 'capnplaw20.TagbyteMatchesReference', WHERE WHAT IT READS IS OF BULK AT MOST 1048576: true; the input reads as it did. -/
def tagbyteMatchesReferenceUptoRow : OpenClaim := { program := "ytamcadegencfbaa", sum := "5d31399fcc98be5e9c6c89bba100ed5db23ed0578e159e68deabdbd00122aa3a", func := "capnp/capnplaw20.TagbyteMatchesReference", spec := "tagbyteMatchesReference", apart := false, narrowed := true }
def TagbyteMatchesReferenceUptoSaid : Prop := tagbyteMatchesReferenceUptoRow.holds Try.pinned (OpenSpec.upto tagbyteMatchesReferenceSpec)

/-- 'capnplaw20.TagbyteRoundTrip', WHERE WHAT IT READS IS OF BULK AT MOST 1048576: true; the input reads as it did. -/
def tagbyteRoundTripUptoRow : OpenClaim := { program := "ytamcadegencfbaa", sum := "5d31399fcc98be5e9c6c89bba100ed5db23ed0578e159e68deabdbd00122aa3a", func := "capnp/capnplaw20.TagbyteRoundTrip", spec := "tagbyteRoundTrip", apart := false, narrowed := true }
def TagbyteRoundTripUptoSaid : Prop := tagbyteRoundTripUptoRow.holds Try.pinned (OpenSpec.upto tagbyteRoundTripSpec)

/-- 'capnplaw20.TagbyteExpand', WHERE WHAT IT READS IS OF BULK AT MOST 1048576: true; the input reads as it did. -/
def tagbyteExpandUptoRow : OpenClaim := { program := "ytamcadegencfbaa", sum := "5d31399fcc98be5e9c6c89bba100ed5db23ed0578e159e68deabdbd00122aa3a", func := "capnp/capnplaw20.TagbyteExpand", spec := "tagbyteExpand", apart := false, narrowed := true }
def TagbyteExpandUptoSaid : Prop := tagbyteExpandUptoRow.holds Try.pinned (OpenSpec.upto tagbyteExpandSpec)

/-- 'capnplaw20.TagbyteDense', WHERE WHAT IT READS IS OF BULK AT MOST 1048576: true; the input reads as it did. -/
def tagbyteDenseUptoRow : OpenClaim := { program := "ytamcadegencfbaa", sum := "5d31399fcc98be5e9c6c89bba100ed5db23ed0578e159e68deabdbd00122aa3a", func := "capnp/capnplaw20.TagbyteDense", spec := "tagbyteDense", apart := false, narrowed := true }
def TagbyteDenseUptoSaid : Prop := tagbyteDenseUptoRow.holds Try.pinned (OpenSpec.upto tagbyteDenseSpec)

/-- 'capnplaw20.TagbyteKeeps', WHERE WHAT IT READS IS OF BULK AT MOST 1048576: true; the input reads as it did. -/
def tagbyteKeepsUptoRow : OpenClaim := { program := "ytamcadegencfbaa", sum := "5d31399fcc98be5e9c6c89bba100ed5db23ed0578e159e68deabdbd00122aa3a", func := "capnp/capnplaw20.TagbyteKeeps", spec := "tagbyteKeeps", apart := false, narrowed := true }
def TagbyteKeepsUptoSaid : Prop := tagbyteKeepsUptoRow.holds Try.pinned (OpenSpec.upto tagbyteKeepsSpec)

/-- 'capnplaw21.PackMatchesReference', WHERE WHAT IT READS IS OF BULK AT MOST 1048576: true; the input reads as it did. -/
def packMatchesReferenceUptoRow : OpenClaim := { program := "ytamcadegencfbaa", sum := "5d31399fcc98be5e9c6c89bba100ed5db23ed0578e159e68deabdbd00122aa3a", func := "capnp/capnplaw21.PackMatchesReference", spec := "packMatchesReference", unfollowed := true, recurses := true, apart := false, narrowed := true }
def PackMatchesReferenceUptoSaid : Prop := packMatchesReferenceUptoRow.holds Try.pinned (OpenSpec.upto packMatchesReferenceSpec)

/-- 'capnplaw21.PackBounded', WHERE WHAT IT READS IS OF BULK AT MOST 1048576: true; the input reads as it did. -/
def packBoundedUptoRow : OpenClaim := { program := "ytamcadegencfbaa", sum := "5d31399fcc98be5e9c6c89bba100ed5db23ed0578e159e68deabdbd00122aa3a", func := "capnp/capnplaw21.PackBounded", spec := "packBounded", unfollowed := true, recurses := true, apart := false, narrowed := true }
def PackBoundedUptoSaid : Prop := packBoundedUptoRow.holds Try.pinned (OpenSpec.upto packBoundedSpec)

/-- 'capnplaw21.PackGroups', WHERE WHAT IT READS IS OF BULK AT MOST 1048576: true; the input reads as it did. -/
def packGroupsUptoRow : OpenClaim := { program := "ytamcadegencfbaa", sum := "5d31399fcc98be5e9c6c89bba100ed5db23ed0578e159e68deabdbd00122aa3a", func := "capnp/capnplaw21.PackGroups", spec := "packGroups", unfollowed := true, recurses := true, apart := false, narrowed := true }
def PackGroupsUptoSaid : Prop := packGroupsUptoRow.holds Try.pinned (OpenSpec.upto packGroupsSpec)

/-- 'capnplaw21.PackRuns', WHERE WHAT IT READS IS OF BULK AT MOST 1048576: true; the input reads as it did. -/
def packRunsUptoRow : OpenClaim := { program := "ytamcadegencfbaa", sum := "5d31399fcc98be5e9c6c89bba100ed5db23ed0578e159e68deabdbd00122aa3a", func := "capnp/capnplaw21.PackRuns", spec := "packRuns", unfollowed := true, recurses := true, apart := false, narrowed := true }
def PackRunsUptoSaid : Prop := packRunsUptoRow.holds Try.pinned (OpenSpec.upto packRunsSpec)

/-- 'capnplaw21.PackInjective', WHERE WHAT IT READS IS OF BULK AT MOST 1048576: true; the input reads as it did. -/
def packInjectiveUptoRow : OpenClaim := { program := "ytamcadegencfbaa", sum := "5d31399fcc98be5e9c6c89bba100ed5db23ed0578e159e68deabdbd00122aa3a", func := "capnp/capnplaw21.PackInjective", spec := "packInjective", unfollowed := true, recurses := true, apart := false, narrowed := true }
def PackInjectiveUptoSaid : Prop := packInjectiveUptoRow.holds Try.pinned (OpenSpec.upto packInjectiveSpec)

/-- 'capnplaw21.PackKeeps', WHERE WHAT IT READS IS OF BULK AT MOST 1048576: true; the input reads as it did. -/
def packKeepsUptoRow : OpenClaim := { program := "ytamcadegencfbaa", sum := "5d31399fcc98be5e9c6c89bba100ed5db23ed0578e159e68deabdbd00122aa3a", func := "capnp/capnplaw21.PackKeeps", spec := "packKeeps", unfollowed := true, recurses := true, apart := false, narrowed := true }
def PackKeepsUptoSaid : Prop := packKeepsUptoRow.holds Try.pinned (OpenSpec.upto packKeepsSpec)

end Rows
end Go.Proofs.Ytamcadegencfbaa
