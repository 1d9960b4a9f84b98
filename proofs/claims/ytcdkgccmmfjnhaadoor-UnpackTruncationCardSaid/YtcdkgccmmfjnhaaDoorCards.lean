/-
  DERIVED. GIVEN WITH THE SEED: THE CARDS: each row of YtcdkgccmmfjnhaaDoorRows.lean that lists a variable, with what it lists TIED to the program's text (the seventh form; the later family's looks); each row that meets fmt, with fmt's text TOLD by the authors' own Lean function (tested against real Go, not proved from fmt's source: count such statements apart). THE CARD IS WHAT COUNTS. Prove the row's statement (the work); the ties are given (YtcdkgccmmfjnhaaDoorTie.lean); close each card by the builder's one call (the guide's Derived/Test/ToyasCard.lean, 'card_holds'). Laid BY PROGRAM, IN A SANDBOX (cutbox-door.mjs). By AI agents, Wed Nov 11 2026. No macro, syntax, notation, axiom, sorry.
-/
import Derived.Test.YtcdkgccmmfjnhaaDoorRows
import GoSem.ClaimSeven
namespace Go.Proofs.YtcdkgccmmfjnhaaDoor
namespace Rows

/-- THE TIED CARD OF 'capnplaw22.UnpackMatchesReference'. -/
def unpackMatchesReferenceCard : Claim7 := { stood := { row := unpackMatchesReferenceRow, standIns := [], harness := (true, "124bdfa83c3b24acbd5370c4774f72af94791399b48cf30bf1e888a539e4320a"), looks := true }, kinds := [], alts := [], laidByText := true, laidKinds := [.sentinel, .sentinel], laidTests := true, laidLooks := .later }
def UnpackMatchesReferenceCardSaid : Prop := Claim7.holds Tryd.pinned (.plain (OpenSpec.ofChange unpackMatchesReferenceSpec)) unpackMatchesReferenceCard

/-- THE TIED CARD OF 'capnplaw22.UnpackRoundTrip'. -/
def unpackRoundTripCard : Claim7 := { stood := { row := unpackRoundTripRow, standIns := [], harness := (true, "124bdfa83c3b24acbd5370c4774f72af94791399b48cf30bf1e888a539e4320a"), looks := true }, kinds := [], alts := [], laidByText := true, laidKinds := [.sentinel, .sentinel], laidTests := true, laidLooks := .later }
def UnpackRoundTripCardSaid : Prop := Claim7.holds Tryd.pinned (.plain (OpenSpec.ofChange unpackRoundTripSpec)) unpackRoundTripCard

/-- THE TIED CARD OF 'capnplaw22.UnpackLimit'. -/
def unpackLimitCard : Claim7 := { stood := { row := unpackLimitRow, standIns := [], harness := (true, "124bdfa83c3b24acbd5370c4774f72af94791399b48cf30bf1e888a539e4320a"), looks := true }, kinds := [], alts := [], laidByText := true, laidKinds := [.sentinel, .sentinel], laidTests := true, laidLooks := .later }
def UnpackLimitCardSaid : Prop := Claim7.holds Tryd.pinned (.plain (OpenSpec.ofChange unpackLimitSpec)) unpackLimitCard

/-- THE TIED CARD OF 'capnplaw22.UnpackTruncation'. -/
def unpackTruncationCard : Claim7 := { stood := { row := unpackTruncationRow, standIns := [], harness := (true, "124bdfa83c3b24acbd5370c4774f72af94791399b48cf30bf1e888a539e4320a"), looks := true }, kinds := [], alts := [], laidByText := true, laidKinds := [.sentinel, .sentinel], laidTests := true, laidLooks := .later }
def UnpackTruncationCardSaid : Prop := Claim7.holds Tryd.pinned (.plain (OpenSpec.ofChange unpackTruncationSpec)) unpackTruncationCard

/-- THE TIED CARD OF 'capnplaw22.UnpackKeeps'. -/
def unpackKeepsCard : Claim7 := { stood := { row := unpackKeepsRow, standIns := [], harness := (true, "124bdfa83c3b24acbd5370c4774f72af94791399b48cf30bf1e888a539e4320a"), looks := true }, kinds := [], alts := [], laidByText := true, laidKinds := [.sentinel, .sentinel], laidTests := true, laidLooks := .later }
def UnpackKeepsCardSaid : Prop := Claim7.holds Tryd.pinned (.plain (OpenSpec.ofChange unpackKeepsSpec)) unpackKeepsCard

/-- THE SECOND FORM's CARD OF 'capnplaw22.UnpackMatchesReference'. -/
def unpackMatchesReferenceUptoCard : Claim7 := { stood := { row := unpackMatchesReferenceUptoRow, standIns := [], harness := (true, "124bdfa83c3b24acbd5370c4774f72af94791399b48cf30bf1e888a539e4320a"), looks := true }, kinds := [], alts := [], laidByText := true, laidKinds := [.sentinel, .sentinel], laidTests := true, laidLooks := .later }
def UnpackMatchesReferenceUptoCardSaid : Prop := Claim7.holds Tryd.pinned (.plain (OpenSpec.upto unpackMatchesReferenceSpec)) unpackMatchesReferenceUptoCard

/-- THE SECOND FORM's CARD OF 'capnplaw22.UnpackRoundTrip'. -/
def unpackRoundTripUptoCard : Claim7 := { stood := { row := unpackRoundTripUptoRow, standIns := [], harness := (true, "124bdfa83c3b24acbd5370c4774f72af94791399b48cf30bf1e888a539e4320a"), looks := true }, kinds := [], alts := [], laidByText := true, laidKinds := [.sentinel, .sentinel], laidTests := true, laidLooks := .later }
def UnpackRoundTripUptoCardSaid : Prop := Claim7.holds Tryd.pinned (.plain (OpenSpec.upto unpackRoundTripSpec)) unpackRoundTripUptoCard

/-- THE SECOND FORM's CARD OF 'capnplaw22.UnpackLimit'. -/
def unpackLimitUptoCard : Claim7 := { stood := { row := unpackLimitUptoRow, standIns := [], harness := (true, "124bdfa83c3b24acbd5370c4774f72af94791399b48cf30bf1e888a539e4320a"), looks := true }, kinds := [], alts := [], laidByText := true, laidKinds := [.sentinel, .sentinel], laidTests := true, laidLooks := .later }
def UnpackLimitUptoCardSaid : Prop := Claim7.holds Tryd.pinned (.plain (OpenSpec.upto unpackLimitSpec)) unpackLimitUptoCard

/-- THE SECOND FORM's CARD OF 'capnplaw22.UnpackTruncation'. -/
def unpackTruncationUptoCard : Claim7 := { stood := { row := unpackTruncationUptoRow, standIns := [], harness := (true, "124bdfa83c3b24acbd5370c4774f72af94791399b48cf30bf1e888a539e4320a"), looks := true }, kinds := [], alts := [], laidByText := true, laidKinds := [.sentinel, .sentinel], laidTests := true, laidLooks := .later }
def UnpackTruncationUptoCardSaid : Prop := Claim7.holds Tryd.pinned (.plain (OpenSpec.upto unpackTruncationSpec)) unpackTruncationUptoCard

/-- THE SECOND FORM's CARD OF 'capnplaw22.UnpackKeeps'. -/
def unpackKeepsUptoCard : Claim7 := { stood := { row := unpackKeepsUptoRow, standIns := [], harness := (true, "124bdfa83c3b24acbd5370c4774f72af94791399b48cf30bf1e888a539e4320a"), looks := true }, kinds := [], alts := [], laidByText := true, laidKinds := [.sentinel, .sentinel], laidTests := true, laidLooks := .later }
def UnpackKeepsUptoCardSaid : Prop := Claim7.holds Tryd.pinned (.plain (OpenSpec.upto unpackKeepsSpec)) unpackKeepsUptoCard
end Rows
end Go.Proofs.YtcdkgccmmfjnhaaDoor
