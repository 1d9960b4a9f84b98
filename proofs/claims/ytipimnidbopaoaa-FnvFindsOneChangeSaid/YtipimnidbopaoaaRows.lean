/-
  No cell of these rows narrows 'for every input' (looked for: loops, veiled, ifaces, maps, wideKeys, modest, calm, conditions, laid).
  DERIVED. THE GIVEN ROWS OF THIS SEAT. 9 by the template 'for every input the law returns true; each argument reads behind the call as it read before'; 0 by the template 'total and deterministic' (their statements: YtipimnidbopaoaaTotals.lean).
  GIVEN WITH THE SEED: the statements are not yours to turn. If you find one false, say at which input.
  Laid BY PROGRAM, IN A SANDBOX (cutbox-rows.mjs): the forced cells as the released guide's own fill.sh prints them over the translation 8cda73dfbd8dc0b3… (all of the seat's roots in one cut). By AI agents, Wed Nov 11 2026. No macro, syntax, notation, axiom, sorry.
-/
import Derived.Test.YtipimnidbopaoaaChecked
import GoSem.Claim
import GoSem.ClaimJoined
import GoSem.ClaimMapViews
import Derived.JoinedTies
import Derived.KernelRfl
namespace Go.Proofs.Ytipimnidbopaoaa
/- THE CELL 'sum', in the pinned program and in every row, IS THE sha256 OF THE DUMP (.gsa) THAT YtipimnidbopaoaaProg.lean LOADS. Nothing in Lean hashes anything: it is a label: what it is worth is what the hold of that sum in a sandbox is worth. -/
noncomputable def Try.pinned : Pinned := { name := "ytipimnidbopaoaa", sum := "8cda73dfbd8dc0b31bf5bcf9c9d0e9c0de52ab8a4a4884d000c117b3e9c35103", checked := Try.checked }
namespace Rows
def none {H : Type} : Left H := { results := [], args := [] }

/-- 'capnplaw18.FnvMatchesReference': WHATEVER THE INPUT: true; the input reads as it did. -/
def fnvMatchesReferenceSpec : ChangeSpec := { name := "fnvMatchesReference", fn := fun _ => fun
  | [d1, d2, d3] => { results := [.lit (.bool true)], args := [d1, d2, d3] }
  | _ => none }
def fnvMatchesReferenceRow : OpenClaim := { program := "ytipimnidbopaoaa", sum := "8cda73dfbd8dc0b31bf5bcf9c9d0e9c0de52ab8a4a4884d000c117b3e9c35103", func := "capnp/capnplaw18.FnvMatchesReference", spec := "fnvMatchesReference", apart := false }
def FnvMatchesReferenceSaid : Prop := fnvMatchesReferenceRow.holds Try.pinned (OpenSpec.ofChange fnvMatchesReferenceSpec)

/-- ITS FALSE NEIGHBOUR: 'it returns false'. Refute it at one input. -/
def fnvMatchesReferenceWrong : ChangeSpec := { name := "fnvMatchesReference", fn := fun _ => fun
  | [d1, d2, d3] => { results := [.lit (.bool false)], args := [d1, d2, d3] }
  | _ => none }
def FnvMatchesReferenceWrongFalsely : Prop := fnvMatchesReferenceRow.holds Try.pinned (OpenSpec.ofChange fnvMatchesReferenceWrong)

/-- 'capnplaw18.FnvComposes': WHATEVER THE INPUT: true; the input reads as it did. -/
def fnvComposesSpec : ChangeSpec := { name := "fnvComposes", fn := fun _ => fun
  | [d1, d2, d3] => { results := [.lit (.bool true)], args := [d1, d2, d3] }
  | _ => none }
def fnvComposesRow : OpenClaim := { program := "ytipimnidbopaoaa", sum := "8cda73dfbd8dc0b31bf5bcf9c9d0e9c0de52ab8a4a4884d000c117b3e9c35103", func := "capnp/capnplaw18.FnvComposes", spec := "fnvComposes", apart := false }
def FnvComposesSaid : Prop := fnvComposesRow.holds Try.pinned (OpenSpec.ofChange fnvComposesSpec)

/-- ITS FALSE NEIGHBOUR: 'it returns false'. Refute it at one input. -/
def fnvComposesWrong : ChangeSpec := { name := "fnvComposes", fn := fun _ => fun
  | [d1, d2, d3] => { results := [.lit (.bool false)], args := [d1, d2, d3] }
  | _ => none }
def FnvComposesWrongFalsely : Prop := fnvComposesRow.holds Try.pinned (OpenSpec.ofChange fnvComposesWrong)

/-- 'capnplaw18.FnvIsInjectiveInState': WHATEVER THE INPUT: true; the input reads as it did. -/
def fnvIsInjectiveInStateSpec : ChangeSpec := { name := "fnvIsInjectiveInState", fn := fun _ => fun
  | [d1, d2, d3, d4, d5] => { results := [.lit (.bool true)], args := [d1, d2, d3, d4, d5] }
  | _ => none }
def fnvIsInjectiveInStateRow : OpenClaim := { program := "ytipimnidbopaoaa", sum := "8cda73dfbd8dc0b31bf5bcf9c9d0e9c0de52ab8a4a4884d000c117b3e9c35103", func := "capnp/capnplaw18.FnvIsInjectiveInState", spec := "fnvIsInjectiveInState", apart := false }
def FnvIsInjectiveInStateSaid : Prop := fnvIsInjectiveInStateRow.holds Try.pinned (OpenSpec.ofChange fnvIsInjectiveInStateSpec)

/-- ITS FALSE NEIGHBOUR: 'it returns false'. Refute it at one input. -/
def fnvIsInjectiveInStateWrong : ChangeSpec := { name := "fnvIsInjectiveInState", fn := fun _ => fun
  | [d1, d2, d3, d4, d5] => { results := [.lit (.bool false)], args := [d1, d2, d3, d4, d5] }
  | _ => none }
def FnvIsInjectiveInStateWrongFalsely : Prop := fnvIsInjectiveInStateRow.holds Try.pinned (OpenSpec.ofChange fnvIsInjectiveInStateWrong)

/-- 'capnplaw18.FnvFindsOneChange': WHATEVER THE INPUT: true; the input reads as it did. -/
def fnvFindsOneChangeSpec : ChangeSpec := { name := "fnvFindsOneChange", fn := fun _ => fun
  | [d1, d2, d3] => { results := [.lit (.bool true)], args := [d1, d2, d3] }
  | _ => none }
def fnvFindsOneChangeRow : OpenClaim := { program := "ytipimnidbopaoaa", sum := "8cda73dfbd8dc0b31bf5bcf9c9d0e9c0de52ab8a4a4884d000c117b3e9c35103", func := "capnp/capnplaw18.FnvFindsOneChange", spec := "fnvFindsOneChange", apart := false }
def FnvFindsOneChangeSaid : Prop := fnvFindsOneChangeRow.holds Try.pinned (OpenSpec.ofChange fnvFindsOneChangeSpec)

/-- ITS FALSE NEIGHBOUR: 'it returns false'. Refute it at one input. -/
def fnvFindsOneChangeWrong : ChangeSpec := { name := "fnvFindsOneChange", fn := fun _ => fun
  | [d1, d2, d3] => { results := [.lit (.bool false)], args := [d1, d2, d3] }
  | _ => none }
def FnvFindsOneChangeWrongFalsely : Prop := fnvFindsOneChangeRow.holds Try.pinned (OpenSpec.ofChange fnvFindsOneChangeWrong)

/-- 'capnplaw01.WordMatchesReference': WHATEVER THE INPUT: true; the input reads as it did. -/
def wordMatchesReferenceSpec : ChangeSpec := { name := "wordMatchesReference", fn := fun _ => fun
  | [d1, d2, d3, d4, d5, d6, d7] => { results := [.lit (.bool true)], args := [d1, d2, d3, d4, d5, d6, d7] }
  | _ => none }
def wordMatchesReferenceRow : OpenClaim := { program := "ytipimnidbopaoaa", sum := "8cda73dfbd8dc0b31bf5bcf9c9d0e9c0de52ab8a4a4884d000c117b3e9c35103", func := "capnp/capnplaw01.WordMatchesReference", spec := "wordMatchesReference", apart := false }
def WordMatchesReferenceSaid : Prop := wordMatchesReferenceRow.holds Try.pinned (OpenSpec.ofChange wordMatchesReferenceSpec)

/-- ITS FALSE NEIGHBOUR: 'it returns false'. Refute it at one input. -/
def wordMatchesReferenceWrong : ChangeSpec := { name := "wordMatchesReference", fn := fun _ => fun
  | [d1, d2, d3, d4, d5, d6, d7] => { results := [.lit (.bool false)], args := [d1, d2, d3, d4, d5, d6, d7] }
  | _ => none }
def WordMatchesReferenceWrongFalsely : Prop := wordMatchesReferenceRow.holds Try.pinned (OpenSpec.ofChange wordMatchesReferenceWrong)

/-- 'capnplaw01.WordRoundTrip': WHATEVER THE INPUT: true; the input reads as it did. -/
def wordRoundTripSpec : ChangeSpec := { name := "wordRoundTrip", fn := fun _ => fun
  | [d1, d2, d3] => { results := [.lit (.bool true)], args := [d1, d2, d3] }
  | _ => none }
def wordRoundTripRow : OpenClaim := { program := "ytipimnidbopaoaa", sum := "8cda73dfbd8dc0b31bf5bcf9c9d0e9c0de52ab8a4a4884d000c117b3e9c35103", func := "capnp/capnplaw01.WordRoundTrip", spec := "wordRoundTrip", apart := false }
def WordRoundTripSaid : Prop := wordRoundTripRow.holds Try.pinned (OpenSpec.ofChange wordRoundTripSpec)

/-- ITS FALSE NEIGHBOUR: 'it returns false'. Refute it at one input. -/
def wordRoundTripWrong : ChangeSpec := { name := "wordRoundTrip", fn := fun _ => fun
  | [d1, d2, d3] => { results := [.lit (.bool false)], args := [d1, d2, d3] }
  | _ => none }
def WordRoundTripWrongFalsely : Prop := wordRoundTripRow.holds Try.pinned (OpenSpec.ofChange wordRoundTripWrong)

/-- 'capnplaw01.WordInsertThenField': WHATEVER THE INPUT: true; the input reads as it did. -/
def wordInsertThenFieldSpec : ChangeSpec := { name := "wordInsertThenField", fn := fun _ => fun
  | [d1, d2, d3, d4, d5, d6, d7] => { results := [.lit (.bool true)], args := [d1, d2, d3, d4, d5, d6, d7] }
  | _ => none }
def wordInsertThenFieldRow : OpenClaim := { program := "ytipimnidbopaoaa", sum := "8cda73dfbd8dc0b31bf5bcf9c9d0e9c0de52ab8a4a4884d000c117b3e9c35103", func := "capnp/capnplaw01.WordInsertThenField", spec := "wordInsertThenField", apart := false }
def WordInsertThenFieldSaid : Prop := wordInsertThenFieldRow.holds Try.pinned (OpenSpec.ofChange wordInsertThenFieldSpec)

/-- ITS FALSE NEIGHBOUR: 'it returns false'. Refute it at one input. -/
def wordInsertThenFieldWrong : ChangeSpec := { name := "wordInsertThenField", fn := fun _ => fun
  | [d1, d2, d3, d4, d5, d6, d7] => { results := [.lit (.bool false)], args := [d1, d2, d3, d4, d5, d6, d7] }
  | _ => none }
def WordInsertThenFieldWrongFalsely : Prop := wordInsertThenFieldRow.holds Try.pinned (OpenSpec.ofChange wordInsertThenFieldWrong)

/-- 'capnplaw01.WordSignedFields': WHATEVER THE INPUT: true; the input reads as it did. -/
def wordSignedFieldsSpec : ChangeSpec := { name := "wordSignedFields", fn := fun _ => fun
  | [d1, d2, d3] => { results := [.lit (.bool true)], args := [d1, d2, d3] }
  | _ => none }
def wordSignedFieldsRow : OpenClaim := { program := "ytipimnidbopaoaa", sum := "8cda73dfbd8dc0b31bf5bcf9c9d0e9c0de52ab8a4a4884d000c117b3e9c35103", func := "capnp/capnplaw01.WordSignedFields", spec := "wordSignedFields", apart := false }
def WordSignedFieldsSaid : Prop := wordSignedFieldsRow.holds Try.pinned (OpenSpec.ofChange wordSignedFieldsSpec)

/-- ITS FALSE NEIGHBOUR: 'it returns false'. Refute it at one input. -/
def wordSignedFieldsWrong : ChangeSpec := { name := "wordSignedFields", fn := fun _ => fun
  | [d1, d2, d3] => { results := [.lit (.bool false)], args := [d1, d2, d3] }
  | _ => none }
def WordSignedFieldsWrongFalsely : Prop := wordSignedFieldsRow.holds Try.pinned (OpenSpec.ofChange wordSignedFieldsWrong)

/-- 'capnplaw01.WordKeeps': WHATEVER THE INPUT: true; the input reads as it did. -/
def wordKeepsSpec : ChangeSpec := { name := "wordKeeps", fn := fun _ => fun
  | [d1, d2] => { results := [.lit (.bool true)], args := [d1, d2] }
  | _ => none }
def wordKeepsRow : OpenClaim := { program := "ytipimnidbopaoaa", sum := "8cda73dfbd8dc0b31bf5bcf9c9d0e9c0de52ab8a4a4884d000c117b3e9c35103", func := "capnp/capnplaw01.WordKeeps", spec := "wordKeeps", apart := false }
def WordKeepsSaid : Prop := wordKeepsRow.holds Try.pinned (OpenSpec.ofChange wordKeepsSpec)

/-- ITS FALSE NEIGHBOUR: 'it returns false'. Refute it at one input. -/
def wordKeepsWrong : ChangeSpec := { name := "wordKeeps", fn := fun _ => fun
  | [d1, d2] => { results := [.lit (.bool false)], args := [d1, d2] }
  | _ => none }
def WordKeepsWrongFalsely : Prop := wordKeepsRow.holds Try.pinned (OpenSpec.ofChange wordKeepsWrong)

/- THE SECOND FORM. 'bulk': how many values and letters a reading holds, each counted each time it is reached (what is shared counts as often as it is met; a slice's spare places count too). A statement '..UptoSaid' is the law's where the arguments, and the package variables that the reading takes, are together of bulk at most 1048576: NARROWER than '..Said'. Prove '..Said' where nothing that the law and all that it calls make is longer than what came in: it says more and counts as full. Else prove '..UptoSaid'. A law counts once. -/
mutual
def uptoBulk {H : Type} : DataW H → Nat
  | .lit (.string bytes) => bytes.length + 1
  | .lit _ => 1
  | .nil => 1
  | .ptr d => uptoBulk d + 1
  | .slice elems spare => uptoBulkAll elems + uptoBulkAll spare + 1
  | .agg parts => uptoBulkAll parts + 1
  | .iface _ d => uptoBulk d + 1
  | .map entries => uptoBulkEntries entries + 1
  | .held _ => 1
def uptoBulkAll {H : Type} : List (DataW H) → Nat
  | [] => 0
  | d :: r => uptoBulk d + uptoBulkAll r
def uptoBulkEntries {H : Type} : List (Lit × DataW H) → Nat
  | [] => 0
  | x :: r => uptoBulkEntry x + uptoBulkEntries r
def uptoBulkEntry {H : Type} : Lit × DataW H → Nat
  | (.string bytes, d) => bytes.length + uptoBulk d + 1
  | (_, d) => uptoBulk d + 1
 end
def uptoSmall : (H : Type) → List (DataW H) → Bool := fun _ ds => decide (uptoBulkAll ds ≤ 1048576)
def OpenSpec.upto (s : _root_.Go.ChangeSpec) : _root_.Go.OpenSpec := { _root_.Go.OpenSpec.ofChange s with cond := some uptoSmall }

/-- 'capnplaw18.FnvMatchesReference', WHERE WHAT IT READS IS OF BULK AT MOST 1048576: true; the input reads as it did. -/
def fnvMatchesReferenceUptoRow : OpenClaim := { program := "ytipimnidbopaoaa", sum := "8cda73dfbd8dc0b31bf5bcf9c9d0e9c0de52ab8a4a4884d000c117b3e9c35103", func := "capnp/capnplaw18.FnvMatchesReference", spec := "fnvMatchesReference", apart := false, narrowed := true }
def FnvMatchesReferenceUptoSaid : Prop := fnvMatchesReferenceUptoRow.holds Try.pinned (OpenSpec.upto fnvMatchesReferenceSpec)

/-- 'capnplaw18.FnvComposes', WHERE WHAT IT READS IS OF BULK AT MOST 1048576: true; the input reads as it did. -/
def fnvComposesUptoRow : OpenClaim := { program := "ytipimnidbopaoaa", sum := "8cda73dfbd8dc0b31bf5bcf9c9d0e9c0de52ab8a4a4884d000c117b3e9c35103", func := "capnp/capnplaw18.FnvComposes", spec := "fnvComposes", apart := false, narrowed := true }
def FnvComposesUptoSaid : Prop := fnvComposesUptoRow.holds Try.pinned (OpenSpec.upto fnvComposesSpec)

/-- 'capnplaw18.FnvIsInjectiveInState', WHERE WHAT IT READS IS OF BULK AT MOST 1048576: true; the input reads as it did. -/
def fnvIsInjectiveInStateUptoRow : OpenClaim := { program := "ytipimnidbopaoaa", sum := "8cda73dfbd8dc0b31bf5bcf9c9d0e9c0de52ab8a4a4884d000c117b3e9c35103", func := "capnp/capnplaw18.FnvIsInjectiveInState", spec := "fnvIsInjectiveInState", apart := false, narrowed := true }
def FnvIsInjectiveInStateUptoSaid : Prop := fnvIsInjectiveInStateUptoRow.holds Try.pinned (OpenSpec.upto fnvIsInjectiveInStateSpec)

/-- 'capnplaw18.FnvFindsOneChange', WHERE WHAT IT READS IS OF BULK AT MOST 1048576: true; the input reads as it did. -/
def fnvFindsOneChangeUptoRow : OpenClaim := { program := "ytipimnidbopaoaa", sum := "8cda73dfbd8dc0b31bf5bcf9c9d0e9c0de52ab8a4a4884d000c117b3e9c35103", func := "capnp/capnplaw18.FnvFindsOneChange", spec := "fnvFindsOneChange", apart := false, narrowed := true }
def FnvFindsOneChangeUptoSaid : Prop := fnvFindsOneChangeUptoRow.holds Try.pinned (OpenSpec.upto fnvFindsOneChangeSpec)

/-- 'capnplaw01.WordMatchesReference', WHERE WHAT IT READS IS OF BULK AT MOST 1048576: true; the input reads as it did. -/
def wordMatchesReferenceUptoRow : OpenClaim := { program := "ytipimnidbopaoaa", sum := "8cda73dfbd8dc0b31bf5bcf9c9d0e9c0de52ab8a4a4884d000c117b3e9c35103", func := "capnp/capnplaw01.WordMatchesReference", spec := "wordMatchesReference", apart := false, narrowed := true }
def WordMatchesReferenceUptoSaid : Prop := wordMatchesReferenceUptoRow.holds Try.pinned (OpenSpec.upto wordMatchesReferenceSpec)

/-- 'capnplaw01.WordRoundTrip', WHERE WHAT IT READS IS OF BULK AT MOST 1048576: true; the input reads as it did. -/
def wordRoundTripUptoRow : OpenClaim := { program := "ytipimnidbopaoaa", sum := "8cda73dfbd8dc0b31bf5bcf9c9d0e9c0de52ab8a4a4884d000c117b3e9c35103", func := "capnp/capnplaw01.WordRoundTrip", spec := "wordRoundTrip", apart := false, narrowed := true }
def WordRoundTripUptoSaid : Prop := wordRoundTripUptoRow.holds Try.pinned (OpenSpec.upto wordRoundTripSpec)

/-- 'capnplaw01.WordInsertThenField', WHERE WHAT IT READS IS OF BULK AT MOST 1048576: true; the input reads as it did. -/
def wordInsertThenFieldUptoRow : OpenClaim := { program := "ytipimnidbopaoaa", sum := "8cda73dfbd8dc0b31bf5bcf9c9d0e9c0de52ab8a4a4884d000c117b3e9c35103", func := "capnp/capnplaw01.WordInsertThenField", spec := "wordInsertThenField", apart := false, narrowed := true }
def WordInsertThenFieldUptoSaid : Prop := wordInsertThenFieldUptoRow.holds Try.pinned (OpenSpec.upto wordInsertThenFieldSpec)

/-- 'capnplaw01.WordSignedFields', WHERE WHAT IT READS IS OF BULK AT MOST 1048576: true; the input reads as it did. -/
def wordSignedFieldsUptoRow : OpenClaim := { program := "ytipimnidbopaoaa", sum := "8cda73dfbd8dc0b31bf5bcf9c9d0e9c0de52ab8a4a4884d000c117b3e9c35103", func := "capnp/capnplaw01.WordSignedFields", spec := "wordSignedFields", apart := false, narrowed := true }
def WordSignedFieldsUptoSaid : Prop := wordSignedFieldsUptoRow.holds Try.pinned (OpenSpec.upto wordSignedFieldsSpec)

/-- 'capnplaw01.WordKeeps', WHERE WHAT IT READS IS OF BULK AT MOST 1048576: true; the input reads as it did. -/
def wordKeepsUptoRow : OpenClaim := { program := "ytipimnidbopaoaa", sum := "8cda73dfbd8dc0b31bf5bcf9c9d0e9c0de52ab8a4a4884d000c117b3e9c35103", func := "capnp/capnplaw01.WordKeeps", spec := "wordKeeps", apart := false, narrowed := true }
def WordKeepsUptoSaid : Prop := wordKeepsUptoRow.holds Try.pinned (OpenSpec.upto wordKeepsSpec)

end Rows
end Go.Proofs.Ytipimnidbopaoaa
