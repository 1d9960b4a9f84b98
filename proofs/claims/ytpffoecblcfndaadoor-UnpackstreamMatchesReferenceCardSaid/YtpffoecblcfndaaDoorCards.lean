/-
  DERIVED. GIVEN WITH THE SEED: THE CARDS: each row of YtpffoecblcfndaaDoorRows.lean that lists a variable, with what it lists TIED to the program's text (the seventh form; the later family's looks); each row that meets fmt, with fmt's text TOLD by the authors' own Lean function (tested against real Go, not proved from fmt's source: count such statements apart). THE CARD IS WHAT COUNTS. Prove the row's statement (the work); the ties are given (YtpffoecblcfndaaDoorTie.lean); close each card by the builder's one call (the guide's Derived/Test/ToyasCard.lean, 'card_holds'). Laid BY PROGRAM, IN A SANDBOX (cutbox-door.mjs). By AI agents, Wed Nov 11 2026. No macro, syntax, notation, axiom, sorry.
-/
import Derived.Test.YtpffoecblcfndaaDoorRows
import GoSem.ClaimSeven
namespace Go.Proofs.YtpffoecblcfndaaDoor
namespace Rows

/-- THE TIED CARD OF 'capnplaw25.UnpackstreamMatchesReference'. -/
def unpackstreamMatchesReferenceCard : Claim7 := { stood := { row := unpackstreamMatchesReferenceRow, standIns := [], harness := (true, "6906bc7ad894676a6c7827d5f8eb3f869a2939f50d658c6a229aa5d8ebe70a73"), looks := false }, kinds := [], alts := [], laidByText := true, laidKinds := [.funcs], laidTests := true, laidLooks := .later }
def UnpackstreamMatchesReferenceCardSaid : Prop := Claim7.holds Tryd.pinned (.plain (OpenSpec.ofChange unpackstreamMatchesReferenceSpec)) unpackstreamMatchesReferenceCard

/-- THE TIED CARD OF 'capnplaw25.UnpackstreamChunks'. -/
def unpackstreamChunksCard : Claim7 := { stood := { row := unpackstreamChunksRow, standIns := [], harness := (true, "6906bc7ad894676a6c7827d5f8eb3f869a2939f50d658c6a229aa5d8ebe70a73"), looks := false }, kinds := [], alts := [], laidByText := true, laidKinds := [.funcs], laidTests := true, laidLooks := .later }
def UnpackstreamChunksCardSaid : Prop := Claim7.holds Tryd.pinned (.plain (OpenSpec.ofChange unpackstreamChunksSpec)) unpackstreamChunksCard

/-- THE TIED CARD OF 'capnplaw25.UnpackstreamSplit'. -/
def unpackstreamSplitCard : Claim7 := { stood := { row := unpackstreamSplitRow, standIns := [], harness := (true, "6906bc7ad894676a6c7827d5f8eb3f869a2939f50d658c6a229aa5d8ebe70a73"), looks := false }, kinds := [], alts := [], laidByText := true, laidKinds := [.funcs], laidTests := true, laidLooks := .later }
def UnpackstreamSplitCardSaid : Prop := Claim7.holds Tryd.pinned (.plain (OpenSpec.ofChange unpackstreamSplitSpec)) unpackstreamSplitCard

/-- THE TIED CARD OF 'capnplaw25.UnpackstreamHolds'. -/
def unpackstreamHoldsCard : Claim7 := { stood := { row := unpackstreamHoldsRow, standIns := [], harness := (true, "6906bc7ad894676a6c7827d5f8eb3f869a2939f50d658c6a229aa5d8ebe70a73"), looks := false }, kinds := [], alts := [], laidByText := true, laidKinds := [.funcs], laidTests := true, laidLooks := .later }
def UnpackstreamHoldsCardSaid : Prop := Claim7.holds Tryd.pinned (.plain (OpenSpec.ofChange unpackstreamHoldsSpec)) unpackstreamHoldsCard

/-- THE TIED CARD OF 'capnplaw25.UnpackstreamRoundTrip'. -/
def unpackstreamRoundTripCard : Claim7 := { stood := { row := unpackstreamRoundTripRow, standIns := [], harness := (true, "6906bc7ad894676a6c7827d5f8eb3f869a2939f50d658c6a229aa5d8ebe70a73"), looks := false }, kinds := [], alts := [], laidByText := true, laidKinds := [.funcs], laidTests := true, laidLooks := .later }
def UnpackstreamRoundTripCardSaid : Prop := Claim7.holds Tryd.pinned (.plain (OpenSpec.ofChange unpackstreamRoundTripSpec)) unpackstreamRoundTripCard

/-- THE SECOND FORM's CARD OF 'capnplaw25.UnpackstreamMatchesReference'. -/
def unpackstreamMatchesReferenceUptoCard : Claim7 := { stood := { row := unpackstreamMatchesReferenceUptoRow, standIns := [], harness := (true, "6906bc7ad894676a6c7827d5f8eb3f869a2939f50d658c6a229aa5d8ebe70a73"), looks := false }, kinds := [], alts := [], laidByText := true, laidKinds := [.funcs], laidTests := true, laidLooks := .later }
def UnpackstreamMatchesReferenceUptoCardSaid : Prop := Claim7.holds Tryd.pinned (.plain (OpenSpec.upto unpackstreamMatchesReferenceSpec)) unpackstreamMatchesReferenceUptoCard

/-- THE SECOND FORM's CARD OF 'capnplaw25.UnpackstreamChunks'. -/
def unpackstreamChunksUptoCard : Claim7 := { stood := { row := unpackstreamChunksUptoRow, standIns := [], harness := (true, "6906bc7ad894676a6c7827d5f8eb3f869a2939f50d658c6a229aa5d8ebe70a73"), looks := false }, kinds := [], alts := [], laidByText := true, laidKinds := [.funcs], laidTests := true, laidLooks := .later }
def UnpackstreamChunksUptoCardSaid : Prop := Claim7.holds Tryd.pinned (.plain (OpenSpec.upto unpackstreamChunksSpec)) unpackstreamChunksUptoCard

/-- THE SECOND FORM's CARD OF 'capnplaw25.UnpackstreamSplit'. -/
def unpackstreamSplitUptoCard : Claim7 := { stood := { row := unpackstreamSplitUptoRow, standIns := [], harness := (true, "6906bc7ad894676a6c7827d5f8eb3f869a2939f50d658c6a229aa5d8ebe70a73"), looks := false }, kinds := [], alts := [], laidByText := true, laidKinds := [.funcs], laidTests := true, laidLooks := .later }
def UnpackstreamSplitUptoCardSaid : Prop := Claim7.holds Tryd.pinned (.plain (OpenSpec.upto unpackstreamSplitSpec)) unpackstreamSplitUptoCard

/-- THE SECOND FORM's CARD OF 'capnplaw25.UnpackstreamHolds'. -/
def unpackstreamHoldsUptoCard : Claim7 := { stood := { row := unpackstreamHoldsUptoRow, standIns := [], harness := (true, "6906bc7ad894676a6c7827d5f8eb3f869a2939f50d658c6a229aa5d8ebe70a73"), looks := false }, kinds := [], alts := [], laidByText := true, laidKinds := [.funcs], laidTests := true, laidLooks := .later }
def UnpackstreamHoldsUptoCardSaid : Prop := Claim7.holds Tryd.pinned (.plain (OpenSpec.upto unpackstreamHoldsSpec)) unpackstreamHoldsUptoCard

/-- THE SECOND FORM's CARD OF 'capnplaw25.UnpackstreamRoundTrip'. -/
def unpackstreamRoundTripUptoCard : Claim7 := { stood := { row := unpackstreamRoundTripUptoRow, standIns := [], harness := (true, "6906bc7ad894676a6c7827d5f8eb3f869a2939f50d658c6a229aa5d8ebe70a73"), looks := false }, kinds := [], alts := [], laidByText := true, laidKinds := [.funcs], laidTests := true, laidLooks := .later }
def UnpackstreamRoundTripUptoCardSaid : Prop := Claim7.holds Tryd.pinned (.plain (OpenSpec.upto unpackstreamRoundTripSpec)) unpackstreamRoundTripUptoCard
end Rows
end Go.Proofs.YtpffoecblcfndaaDoor
