/-
  NARROWER THAN 'FOR EVERY INPUT', by the rows' own cells (each row's printed sentence says how): GrammarMatchesReference: laid · GrammarPackAccepted: laid · GrammarGroups: laid · GrammarChoices: laid · GrammarShortest: laid · GrammarKeeps: laid.
  DERIVED. THE GIVEN ROWS OF THIS SEAT. 6 by the template 'for every input the law returns true; each argument reads behind the call as it read before'; 0 by the template 'total and deterministic' (their statements: YtnchacmhjbkmhaaDoorTotals.lean).
  GIVEN WITH THE SEED: the statements are not yours to turn. If you find one false, say at which input.
  Laid BY PROGRAM, IN A SANDBOX (cutbox-rows.mjs): the forced cells as the released guide's own fill.sh prints them over the translation 1e1071640ee1f203… (all of the seat's roots in one cut). By AI agents, Wed Nov 11 2026. No macro, syntax, notation, axiom, sorry.
-/
import Derived.Test.YtnchacmhjbkmhaaDoorChecked
import GoSem.Claim
import GoSem.ClaimJoined
import GoSem.ClaimMapViews
import Derived.JoinedTies
import Derived.KernelRfl
namespace Go.Proofs.YtnchacmhjbkmhaaDoor
/- THE CELL 'sum', in the pinned program and in every row, IS THE sha256 OF THE DUMP (.gsa) THAT YtnchacmhjbkmhaaDoorProg.lean LOADS. Nothing in Lean hashes anything: it is a label: what it is worth is what the hold of that sum in a sandbox is worth. -/
noncomputable def Tryd.pinned : Pinned := { name := "ytnchacmhjbkmhaadoor", sum := "1e1071640ee1f2033ac0bec5ffccfa2a664124ff3c2860a4c89ef0120fec4f36", checked := Tryd.checked }
namespace Rows
def none {H : Type} : Left H := { results := [], args := [] }

/- WHAT THE LISTED PACKAGE-LEVEL VARIABLES READ AS WHEN THE CALL BEGINS. Each datum BY PROGRAM (the guide's laid-datum.mjs) off the statement by which the dump's own 'gosem.cut.vars' lays the variable. In a bare row this is a premise. The card (YtnchacmhjbkmhaaDoorCards.lean) ties it to the program's text. -/
def laid_capnp_unpack_errTruncated {H : Type} : DataW H := .iface "*errors.errorString" (.ptr (.agg [.lit (.string [117, 110, 112, 97, 99, 107, 58, 32, 116, 114, 117, 110, 99, 97, 116, 101, 100, 32, 105, 110, 112, 117, 116])]))
def laid_capnp_unpack_errLimit {H : Type} : DataW H := .iface "*errors.errorString" (.ptr (.agg [.lit (.string [117, 110, 112, 97, 99, 107, 58, 32, 111, 117, 116, 112, 117, 116, 32, 108, 105, 109, 105, 116, 32, 101, 120, 99, 101, 101, 100, 101, 100])]))

/-- 'capnplaw23.GrammarMatchesReference': WHATEVER THE INPUT: true; the input reads as it did. -/
def grammarMatchesReferenceSpec : ChangeSpec := { name := "grammarMatchesReference", fn := fun _ => fun
  | [d1, d2] => { results := [.lit (.bool true)], args := [d1, d2] }
  | _ => none }
def grammarMatchesReferenceRow : OpenClaim := { program := "ytnchacmhjbkmhaadoor", sum := "1e1071640ee1f2033ac0bec5ffccfa2a664124ff3c2860a4c89ef0120fec4f36", func := "capnp/capnplaw23.GrammarMatchesReference", spec := "grammarMatchesReference", inPlace := ["internal/reflectlite.TypeOf"], unfollowed := true, recurses := true, named := ["capnp/unpack.errLimit", "capnp/unpack.errTruncated"], apart := false, laid := [("capnp/unpack.errTruncated", laid_capnp_unpack_errTruncated), ("capnp/unpack.errLimit", laid_capnp_unpack_errLimit)] }
def GrammarMatchesReferenceSaid : Prop := grammarMatchesReferenceRow.holds Tryd.pinned (OpenSpec.ofChange grammarMatchesReferenceSpec)

/-- ITS FALSE NEIGHBOUR: 'it returns false'. Refute it at one input. -/
def grammarMatchesReferenceWrong : ChangeSpec := { name := "grammarMatchesReference", fn := fun _ => fun
  | [d1, d2] => { results := [.lit (.bool false)], args := [d1, d2] }
  | _ => none }
def GrammarMatchesReferenceWrongFalsely : Prop := grammarMatchesReferenceRow.holds Tryd.pinned (OpenSpec.ofChange grammarMatchesReferenceWrong)

/-- 'capnplaw23.GrammarPackAccepted': WHATEVER THE INPUT: true; the input reads as it did. -/
def grammarPackAcceptedSpec : ChangeSpec := { name := "grammarPackAccepted", fn := fun _ => fun
  | [d1, d2] => { results := [.lit (.bool true)], args := [d1, d2] }
  | _ => none }
def grammarPackAcceptedRow : OpenClaim := { program := "ytnchacmhjbkmhaadoor", sum := "1e1071640ee1f2033ac0bec5ffccfa2a664124ff3c2860a4c89ef0120fec4f36", func := "capnp/capnplaw23.GrammarPackAccepted", spec := "grammarPackAccepted", inPlace := ["internal/reflectlite.TypeOf"], unfollowed := true, recurses := true, named := ["capnp/unpack.errLimit", "capnp/unpack.errTruncated"], apart := false, laid := [("capnp/unpack.errTruncated", laid_capnp_unpack_errTruncated), ("capnp/unpack.errLimit", laid_capnp_unpack_errLimit)] }
def GrammarPackAcceptedSaid : Prop := grammarPackAcceptedRow.holds Tryd.pinned (OpenSpec.ofChange grammarPackAcceptedSpec)

/-- ITS FALSE NEIGHBOUR: 'it returns false'. Refute it at one input. -/
def grammarPackAcceptedWrong : ChangeSpec := { name := "grammarPackAccepted", fn := fun _ => fun
  | [d1, d2] => { results := [.lit (.bool false)], args := [d1, d2] }
  | _ => none }
def GrammarPackAcceptedWrongFalsely : Prop := grammarPackAcceptedRow.holds Tryd.pinned (OpenSpec.ofChange grammarPackAcceptedWrong)

/-- 'capnplaw23.GrammarGroups': WHATEVER THE INPUT: true; the input reads as it did. -/
def grammarGroupsSpec : ChangeSpec := { name := "grammarGroups", fn := fun _ => fun
  | [d] => { results := [.lit (.bool true)], args := [d] }
  | _ => none }
def grammarGroupsRow : OpenClaim := { program := "ytnchacmhjbkmhaadoor", sum := "1e1071640ee1f2033ac0bec5ffccfa2a664124ff3c2860a4c89ef0120fec4f36", func := "capnp/capnplaw23.GrammarGroups", spec := "grammarGroups", inPlace := ["internal/reflectlite.TypeOf"], unfollowed := true, recurses := true, named := ["capnp/unpack.errLimit", "capnp/unpack.errTruncated"], apart := false, laid := [("capnp/unpack.errTruncated", laid_capnp_unpack_errTruncated), ("capnp/unpack.errLimit", laid_capnp_unpack_errLimit)] }
def GrammarGroupsSaid : Prop := grammarGroupsRow.holds Tryd.pinned (OpenSpec.ofChange grammarGroupsSpec)

/-- ITS FALSE NEIGHBOUR: 'it returns false'. Refute it at one input. -/
def grammarGroupsWrong : ChangeSpec := { name := "grammarGroups", fn := fun _ => fun
  | [d] => { results := [.lit (.bool false)], args := [d] }
  | _ => none }
def GrammarGroupsWrongFalsely : Prop := grammarGroupsRow.holds Tryd.pinned (OpenSpec.ofChange grammarGroupsWrong)

/-- 'capnplaw23.GrammarChoices': WHATEVER THE INPUT: true; the input reads as it did. -/
def grammarChoicesSpec : ChangeSpec := { name := "grammarChoices", fn := fun _ => fun
  | [d1, d2, d3] => { results := [.lit (.bool true)], args := [d1, d2, d3] }
  | _ => none }
def grammarChoicesRow : OpenClaim := { program := "ytnchacmhjbkmhaadoor", sum := "1e1071640ee1f2033ac0bec5ffccfa2a664124ff3c2860a4c89ef0120fec4f36", func := "capnp/capnplaw23.GrammarChoices", spec := "grammarChoices", inPlace := ["internal/reflectlite.TypeOf"], unfollowed := true, recurses := true, named := ["capnp/unpack.errLimit", "capnp/unpack.errTruncated"], apart := false, laid := [("capnp/unpack.errTruncated", laid_capnp_unpack_errTruncated), ("capnp/unpack.errLimit", laid_capnp_unpack_errLimit)] }
def GrammarChoicesSaid : Prop := grammarChoicesRow.holds Tryd.pinned (OpenSpec.ofChange grammarChoicesSpec)

/-- ITS FALSE NEIGHBOUR: 'it returns false'. Refute it at one input. -/
def grammarChoicesWrong : ChangeSpec := { name := "grammarChoices", fn := fun _ => fun
  | [d1, d2, d3] => { results := [.lit (.bool false)], args := [d1, d2, d3] }
  | _ => none }
def GrammarChoicesWrongFalsely : Prop := grammarChoicesRow.holds Tryd.pinned (OpenSpec.ofChange grammarChoicesWrong)

/-- 'capnplaw23.GrammarShortest': WHATEVER THE INPUT: true; the input reads as it did. -/
def grammarShortestSpec : ChangeSpec := { name := "grammarShortest", fn := fun _ => fun
  | [d1, d2, d3, d4] => { results := [.lit (.bool true)], args := [d1, d2, d3, d4] }
  | _ => none }
def grammarShortestRow : OpenClaim := { program := "ytnchacmhjbkmhaadoor", sum := "1e1071640ee1f2033ac0bec5ffccfa2a664124ff3c2860a4c89ef0120fec4f36", func := "capnp/capnplaw23.GrammarShortest", spec := "grammarShortest", inPlace := ["internal/reflectlite.TypeOf"], unfollowed := true, recurses := true, named := ["capnp/unpack.errLimit", "capnp/unpack.errTruncated"], apart := false, laid := [("capnp/unpack.errTruncated", laid_capnp_unpack_errTruncated), ("capnp/unpack.errLimit", laid_capnp_unpack_errLimit)] }
def GrammarShortestSaid : Prop := grammarShortestRow.holds Tryd.pinned (OpenSpec.ofChange grammarShortestSpec)

/-- ITS FALSE NEIGHBOUR: 'it returns false'. Refute it at one input. -/
def grammarShortestWrong : ChangeSpec := { name := "grammarShortest", fn := fun _ => fun
  | [d1, d2, d3, d4] => { results := [.lit (.bool false)], args := [d1, d2, d3, d4] }
  | _ => none }
def GrammarShortestWrongFalsely : Prop := grammarShortestRow.holds Tryd.pinned (OpenSpec.ofChange grammarShortestWrong)

/-- 'capnplaw23.GrammarKeeps': WHATEVER THE INPUT: true; the input reads as it did. -/
def grammarKeepsSpec : ChangeSpec := { name := "grammarKeeps", fn := fun _ => fun
  | [d1, d2] => { results := [.lit (.bool true)], args := [d1, d2] }
  | _ => none }
def grammarKeepsRow : OpenClaim := { program := "ytnchacmhjbkmhaadoor", sum := "1e1071640ee1f2033ac0bec5ffccfa2a664124ff3c2860a4c89ef0120fec4f36", func := "capnp/capnplaw23.GrammarKeeps", spec := "grammarKeeps", inPlace := ["internal/reflectlite.TypeOf"], unfollowed := true, recurses := true, named := ["capnp/unpack.errLimit", "capnp/unpack.errTruncated"], apart := false, laid := [("capnp/unpack.errTruncated", laid_capnp_unpack_errTruncated), ("capnp/unpack.errLimit", laid_capnp_unpack_errLimit)] }
def GrammarKeepsSaid : Prop := grammarKeepsRow.holds Tryd.pinned (OpenSpec.ofChange grammarKeepsSpec)

/-- ITS FALSE NEIGHBOUR: 'it returns false'. Refute it at one input. -/
def grammarKeepsWrong : ChangeSpec := { name := "grammarKeeps", fn := fun _ => fun
  | [d1, d2] => { results := [.lit (.bool false)], args := [d1, d2] }
  | _ => none }
def GrammarKeepsWrongFalsely : Prop := grammarKeepsRow.holds Tryd.pinned (OpenSpec.ofChange grammarKeepsWrong)

/- THE SECOND FORM. 'bulk': how many values and letters a reading holds, each counted each time it is reached (what is shared counts as often as it is met; a slice's spare places count too). A statement '..UptoSaid' is the law's where the arguments, and the package variables that the reading takes, are together of bulk at most 1048576: NARROWER than '..Said'. Prove '..Said' where nothing that the law and all that it calls make is longer than what came in: it says more and counts as full. Else prove '..UptoSaid'. A law counts once. -/
mutual
def uptoBulk {H : Type} : DataW H → Nat
  | .lit (.string bytes) => bytes.length + 1
  | .lit _ => 1
  | .nil => 1
  | .ptr d => uptoBulk d + 1
  | .slice elems spare => uptoBulkAll elems + uptoBulkAll spare + 1
  | .agg parts => uptoBulkAll parts + 1
  | .iface _ d => uptoBulk d + 1
  | .map entries => uptoBulkEntries entries + 1
  | .held _ => 1
def uptoBulkAll {H : Type} : List (DataW H) → Nat
  | [] => 0
  | d :: r => uptoBulk d + uptoBulkAll r
def uptoBulkEntries {H : Type} : List (Lit × DataW H) → Nat
  | [] => 0
  | x :: r => uptoBulkEntry x + uptoBulkEntries r
def uptoBulkEntry {H : Type} : Lit × DataW H → Nat
  | (.string bytes, d) => bytes.length + uptoBulk d + 1
  | (_, d) => uptoBulk d + 1
 end
def uptoSmall : (H : Type) → List (DataW H) → Bool := fun _ ds => decide (uptoBulkAll ds ≤ 1048576)
def OpenSpec.upto (s : _root_.Go.ChangeSpec) : _root_.Go.OpenSpec := { _root_.Go.OpenSpec.ofChange s with cond := some uptoSmall }

/-- 'capnplaw23.GrammarMatchesReference', WHERE WHAT IT READS IS OF BULK AT MOST 1048576: true; the input reads as it did. -/
def grammarMatchesReferenceUptoRow : OpenClaim := { program := "ytnchacmhjbkmhaadoor", sum := "1e1071640ee1f2033ac0bec5ffccfa2a664124ff3c2860a4c89ef0120fec4f36", func := "capnp/capnplaw23.GrammarMatchesReference", spec := "grammarMatchesReference", inPlace := ["internal/reflectlite.TypeOf"], unfollowed := true, recurses := true, named := ["capnp/unpack.errLimit", "capnp/unpack.errTruncated"], apart := false, laid := [("capnp/unpack.errTruncated", laid_capnp_unpack_errTruncated), ("capnp/unpack.errLimit", laid_capnp_unpack_errLimit)], narrowed := true }
def GrammarMatchesReferenceUptoSaid : Prop := grammarMatchesReferenceUptoRow.holds Tryd.pinned (OpenSpec.upto grammarMatchesReferenceSpec)

/-- 'capnplaw23.GrammarPackAccepted', WHERE WHAT IT READS IS OF BULK AT MOST 1048576: true; the input reads as it did. -/
def grammarPackAcceptedUptoRow : OpenClaim := { program := "ytnchacmhjbkmhaadoor", sum := "1e1071640ee1f2033ac0bec5ffccfa2a664124ff3c2860a4c89ef0120fec4f36", func := "capnp/capnplaw23.GrammarPackAccepted", spec := "grammarPackAccepted", inPlace := ["internal/reflectlite.TypeOf"], unfollowed := true, recurses := true, named := ["capnp/unpack.errLimit", "capnp/unpack.errTruncated"], apart := false, laid := [("capnp/unpack.errTruncated", laid_capnp_unpack_errTruncated), ("capnp/unpack.errLimit", laid_capnp_unpack_errLimit)], narrowed := true }
def GrammarPackAcceptedUptoSaid : Prop := grammarPackAcceptedUptoRow.holds Tryd.pinned (OpenSpec.upto grammarPackAcceptedSpec)

/-- 'capnplaw23.GrammarGroups', WHERE WHAT IT READS IS OF BULK AT MOST 1048576: true; the input reads as it did. -/
def grammarGroupsUptoRow : OpenClaim := { program := "ytnchacmhjbkmhaadoor", sum := "1e1071640ee1f2033ac0bec5ffccfa2a664124ff3c2860a4c89ef0120fec4f36", func := "capnp/capnplaw23.GrammarGroups", spec := "grammarGroups", inPlace := ["internal/reflectlite.TypeOf"], unfollowed := true, recurses := true, named := ["capnp/unpack.errLimit", "capnp/unpack.errTruncated"], apart := false, laid := [("capnp/unpack.errTruncated", laid_capnp_unpack_errTruncated), ("capnp/unpack.errLimit", laid_capnp_unpack_errLimit)], narrowed := true }
def GrammarGroupsUptoSaid : Prop := grammarGroupsUptoRow.holds Tryd.pinned (OpenSpec.upto grammarGroupsSpec)

/-- 'capnplaw23.GrammarChoices', WHERE WHAT IT READS IS OF BULK AT MOST 1048576: true; the input reads as it did. -/
def grammarChoicesUptoRow : OpenClaim := { program := "ytnchacmhjbkmhaadoor", sum := "1e1071640ee1f2033ac0bec5ffccfa2a664124ff3c2860a4c89ef0120fec4f36", func := "capnp/capnplaw23.GrammarChoices", spec := "grammarChoices", inPlace := ["internal/reflectlite.TypeOf"], unfollowed := true, recurses := true, named := ["capnp/unpack.errLimit", "capnp/unpack.errTruncated"], apart := false, laid := [("capnp/unpack.errTruncated", laid_capnp_unpack_errTruncated), ("capnp/unpack.errLimit", laid_capnp_unpack_errLimit)], narrowed := true }
def GrammarChoicesUptoSaid : Prop := grammarChoicesUptoRow.holds Tryd.pinned (OpenSpec.upto grammarChoicesSpec)

/-- 'capnplaw23.GrammarShortest', WHERE WHAT IT READS IS OF BULK AT MOST 1048576: true; the input reads as it did. -/
def grammarShortestUptoRow : OpenClaim := { program := "ytnchacmhjbkmhaadoor", sum := "1e1071640ee1f2033ac0bec5ffccfa2a664124ff3c2860a4c89ef0120fec4f36", func := "capnp/capnplaw23.GrammarShortest", spec := "grammarShortest", inPlace := ["internal/reflectlite.TypeOf"], unfollowed := true, recurses := true, named := ["capnp/unpack.errLimit", "capnp/unpack.errTruncated"], apart := false, laid := [("capnp/unpack.errTruncated", laid_capnp_unpack_errTruncated), ("capnp/unpack.errLimit", laid_capnp_unpack_errLimit)], narrowed := true }
def GrammarShortestUptoSaid : Prop := grammarShortestUptoRow.holds Tryd.pinned (OpenSpec.upto grammarShortestSpec)

/-- 'capnplaw23.GrammarKeeps', WHERE WHAT IT READS IS OF BULK AT MOST 1048576: true; the input reads as it did. -/
def grammarKeepsUptoRow : OpenClaim := { program := "ytnchacmhjbkmhaadoor", sum := "1e1071640ee1f2033ac0bec5ffccfa2a664124ff3c2860a4c89ef0120fec4f36", func := "capnp/capnplaw23.GrammarKeeps", spec := "grammarKeeps", inPlace := ["internal/reflectlite.TypeOf"], unfollowed := true, recurses := true, named := ["capnp/unpack.errLimit", "capnp/unpack.errTruncated"], apart := false, laid := [("capnp/unpack.errTruncated", laid_capnp_unpack_errTruncated), ("capnp/unpack.errLimit", laid_capnp_unpack_errLimit)], narrowed := true }
def GrammarKeepsUptoSaid : Prop := grammarKeepsUptoRow.holds Tryd.pinned (OpenSpec.upto grammarKeepsSpec)

end Rows
end Go.Proofs.YtnchacmhjbkmhaaDoor
