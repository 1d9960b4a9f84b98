/-
  No cell of these rows narrows 'for every input' (looked for: loops, veiled, ifaces, maps, wideKeys, modest, calm, conditions, laid).
  DERIVED. THE GIVEN ROWS OF THIS SEAT. 4 by the template 'for every input the law returns true; each argument reads behind the call as it read before'; 0 by the template 'total and deterministic' (their statements: YtibkbgaonjdpiaaTotals.lean).
  GIVEN WITH THE SEED: the statements are not yours to turn. If you find one false, say at which input.
  Laid BY PROGRAM, IN A SANDBOX (cutbox-rows.mjs): the forced cells as the released guide's own fill.sh prints them over the translation 768e4fff65f17a88… (all of the seat's roots in one cut). By AI agents, Wed Nov 11 2026. No macro, syntax, notation, axiom, sorry.
-/
import Derived.Test.YtibkbgaonjdpiaaChecked
import GoSem.Claim
import GoSem.ClaimJoined
import GoSem.ClaimMapViews
import Derived.JoinedTies
import Derived.KernelRfl
namespace Go.Proofs.Ytibkbgaonjdpiaa
/- THE CELL 'sum', in the pinned program and in every row, IS THE sha256 OF THE DUMP (.gsa) THAT YtibkbgaonjdpiaaProg.lean LOADS. Nothing in Lean hashes anything: it is a label: what it is worth is what the hold of that sum in a sandbox is worth. -/
noncomputable def Try.pinned : Pinned := { name := "ytibkbgaonjdpiaa", sum := "768e4fff65f17a889d12cb87cf0c1e47cacde2307aeeb00e78c61e0ea7be0184", checked := Try.checked }
namespace Rows
def none {H : Type} : Left H := { results := [], args := [] }

/-- 'capnplaw24.PackstreamMatchesReference': WHATEVER THE INPUT: true; the input reads as it did. -/
def packstreamMatchesReferenceSpec : ChangeSpec := { name := "packstreamMatchesReference", fn := fun _ => fun
  | [d1, d2] => { results := [.lit (.bool true)], args := [d1, d2] }
  | _ => none }
def packstreamMatchesReferenceRow : OpenClaim := { program := "ytibkbgaonjdpiaa", sum := "768e4fff65f17a889d12cb87cf0c1e47cacde2307aeeb00e78c61e0ea7be0184", func := "capnp/capnplaw24.PackstreamMatchesReference", spec := "packstreamMatchesReference", apart := false }
def PackstreamMatchesReferenceSaid : Prop := packstreamMatchesReferenceRow.holds Try.pinned (OpenSpec.ofChange packstreamMatchesReferenceSpec)

/-- ITS FALSE NEIGHBOUR: 'it returns false'. Refute it at one input. -/
def packstreamMatchesReferenceWrong : ChangeSpec := { name := "packstreamMatchesReference", fn := fun _ => fun
  | [d1, d2] => { results := [.lit (.bool false)], args := [d1, d2] }
  | _ => none }
def PackstreamMatchesReferenceWrongFalsely : Prop := packstreamMatchesReferenceRow.holds Try.pinned (OpenSpec.ofChange packstreamMatchesReferenceWrong)

/-- 'capnplaw24.PackstreamChunks': WHATEVER THE INPUT: true; the input reads as it did. -/
def packstreamChunksSpec : ChangeSpec := { name := "packstreamChunks", fn := fun _ => fun
  | [d] => { results := [.lit (.bool true)], args := [d] }
  | _ => none }
def packstreamChunksRow : OpenClaim := { program := "ytibkbgaonjdpiaa", sum := "768e4fff65f17a889d12cb87cf0c1e47cacde2307aeeb00e78c61e0ea7be0184", func := "capnp/capnplaw24.PackstreamChunks", spec := "packstreamChunks", apart := false }
def PackstreamChunksSaid : Prop := packstreamChunksRow.holds Try.pinned (OpenSpec.ofChange packstreamChunksSpec)

/-- ITS FALSE NEIGHBOUR: 'it returns false'. Refute it at one input. -/
def packstreamChunksWrong : ChangeSpec := { name := "packstreamChunks", fn := fun _ => fun
  | [d] => { results := [.lit (.bool false)], args := [d] }
  | _ => none }
def PackstreamChunksWrongFalsely : Prop := packstreamChunksRow.holds Try.pinned (OpenSpec.ofChange packstreamChunksWrong)

/-- 'capnplaw24.PackstreamSplit': WHATEVER THE INPUT: true; the input reads as it did. -/
def packstreamSplitSpec : ChangeSpec := { name := "packstreamSplit", fn := fun _ => fun
  | [d1, d2, d3] => { results := [.lit (.bool true)], args := [d1, d2, d3] }
  | _ => none }
def packstreamSplitRow : OpenClaim := { program := "ytibkbgaonjdpiaa", sum := "768e4fff65f17a889d12cb87cf0c1e47cacde2307aeeb00e78c61e0ea7be0184", func := "capnp/capnplaw24.PackstreamSplit", spec := "packstreamSplit", apart := false }
def PackstreamSplitSaid : Prop := packstreamSplitRow.holds Try.pinned (OpenSpec.ofChange packstreamSplitSpec)

/-- ITS FALSE NEIGHBOUR: 'it returns false'. Refute it at one input. -/
def packstreamSplitWrong : ChangeSpec := { name := "packstreamSplit", fn := fun _ => fun
  | [d1, d2, d3] => { results := [.lit (.bool false)], args := [d1, d2, d3] }
  | _ => none }
def PackstreamSplitWrongFalsely : Prop := packstreamSplitRow.holds Try.pinned (OpenSpec.ofChange packstreamSplitWrong)

/-- 'capnplaw24.PackstreamHolds': WHATEVER THE INPUT: true; the input reads as it did. -/
def packstreamHoldsSpec : ChangeSpec := { name := "packstreamHolds", fn := fun _ => fun
  | [d1, d2] => { results := [.lit (.bool true)], args := [d1, d2] }
  | _ => none }
def packstreamHoldsRow : OpenClaim := { program := "ytibkbgaonjdpiaa", sum := "768e4fff65f17a889d12cb87cf0c1e47cacde2307aeeb00e78c61e0ea7be0184", func := "capnp/capnplaw24.PackstreamHolds", spec := "packstreamHolds", apart := false }
def PackstreamHoldsSaid : Prop := packstreamHoldsRow.holds Try.pinned (OpenSpec.ofChange packstreamHoldsSpec)

/-- ITS FALSE NEIGHBOUR: 'it returns false'. Refute it at one input. -/
def packstreamHoldsWrong : ChangeSpec := { name := "packstreamHolds", fn := fun _ => fun
  | [d1, d2] => { results := [.lit (.bool false)], args := [d1, d2] }
  | _ => none }
def PackstreamHoldsWrongFalsely : Prop := packstreamHoldsRow.holds Try.pinned (OpenSpec.ofChange packstreamHoldsWrong)

/- THE SECOND FORM. 'bulk': how many values and letters a reading holds, each counted each time it is reached (what is shared counts as often as it is met; a slice's spare places count too). A statement '..UptoSaid' is the law's where the arguments, and the package variables that the reading takes, are together of bulk at most 1048576: NARROWER than '..Said'. Prove '..Said' where nothing that the law and all that it calls make is longer than what came in: it says more and counts as full. Else prove '..UptoSaid'. A law counts once. -/
mutual
def uptoBulk {H : Type} : DataW H → Nat
  | .lit (.string bytes) => bytes.length + 1
  | .lit _ => 1
  | .nil => 1
  | .ptr d => uptoBulk d + 1
  | .slice elems spare => uptoBulkAll elems + uptoBulkAll spare + 1
  | .agg parts => uptoBulkAll parts + 1
  | .iface _ d => uptoBulk d + 1
  | .map entries => uptoBulkEntries entries + 1
  | .held _ => 1
def uptoBulkAll {H : Type} : List (DataW H) → Nat
  | [] => 0
  | d :: r => uptoBulk d + uptoBulkAll r
def uptoBulkEntries {H : Type} : List (Lit × DataW H) → Nat
  | [] => 0
  | x :: r => uptoBulkEntry x + uptoBulkEntries r
def uptoBulkEntry {H : Type} : Lit × DataW H → Nat
  | (.string bytes, d) => bytes.length + uptoBulk d + 1
  | (_, d) => uptoBulk d + 1
 end
def uptoSmall : (H : Type) → List (DataW H) → Bool := fun _ ds => decide (uptoBulkAll ds ≤ 1048576)
def OpenSpec.upto (s : _root_.Go.ChangeSpec) : _root_.Go.OpenSpec := { _root_.Go.OpenSpec.ofChange s with cond := some uptoSmall }

/-- 'capnplaw24.PackstreamMatchesReference', WHERE WHAT IT READS IS OF BULK AT MOST 1048576: true; the input reads as it did. -/
def packstreamMatchesReferenceUptoRow : OpenClaim := { program := "ytibkbgaonjdpiaa", sum := "768e4fff65f17a889d12cb87cf0c1e47cacde2307aeeb00e78c61e0ea7be0184", func := "capnp/capnplaw24.PackstreamMatchesReference", spec := "packstreamMatchesReference", apart := false, narrowed := true }
def PackstreamMatchesReferenceUptoSaid : Prop := packstreamMatchesReferenceUptoRow.holds Try.pinned (OpenSpec.upto packstreamMatchesReferenceSpec)

/-- 'capnplaw24.PackstreamChunks', WHERE WHAT IT READS IS OF BULK AT MOST 1048576: true; the input reads as it did. -/
def packstreamChunksUptoRow : OpenClaim := { program := "ytibkbgaonjdpiaa", sum := "768e4fff65f17a889d12cb87cf0c1e47cacde2307aeeb00e78c61e0ea7be0184", func := "capnp/capnplaw24.PackstreamChunks", spec := "packstreamChunks", apart := false, narrowed := true }
def PackstreamChunksUptoSaid : Prop := packstreamChunksUptoRow.holds Try.pinned (OpenSpec.upto packstreamChunksSpec)

/-- 'capnplaw24.PackstreamSplit', WHERE WHAT IT READS IS OF BULK AT MOST 1048576: true; the input reads as it did. -/
def packstreamSplitUptoRow : OpenClaim := { program := "ytibkbgaonjdpiaa", sum := "768e4fff65f17a889d12cb87cf0c1e47cacde2307aeeb00e78c61e0ea7be0184", func := "capnp/capnplaw24.PackstreamSplit", spec := "packstreamSplit", apart := false, narrowed := true }
def PackstreamSplitUptoSaid : Prop := packstreamSplitUptoRow.holds Try.pinned (OpenSpec.upto packstreamSplitSpec)

/-- 'capnplaw24.PackstreamHolds', WHERE WHAT IT READS IS OF BULK AT MOST 1048576: true; the input reads as it did. -/
def packstreamHoldsUptoRow : OpenClaim := { program := "ytibkbgaonjdpiaa", sum := "768e4fff65f17a889d12cb87cf0c1e47cacde2307aeeb00e78c61e0ea7be0184", func := "capnp/capnplaw24.PackstreamHolds", spec := "packstreamHolds", apart := false, narrowed := true }
def PackstreamHoldsUptoSaid : Prop := packstreamHoldsUptoRow.holds Try.pinned (OpenSpec.upto packstreamHoldsSpec)

end Rows
end Go.Proofs.Ytibkbgaonjdpiaa
