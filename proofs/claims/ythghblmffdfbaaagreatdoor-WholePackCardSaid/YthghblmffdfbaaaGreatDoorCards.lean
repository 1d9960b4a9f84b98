/-
  DERIVED. GIVEN WITH THE SEED: THE CARDS: each row of YthghblmffdfbaaaGreatDoorRows.lean that lists a variable, with what it lists TIED to the program's text (the seventh form; the later family's looks); each row that meets fmt, with fmt's text TOLD by the authors' own Lean function (tested against real Go, not proved from fmt's source: count such statements apart). THE CARD IS WHAT COUNTS. Prove the row's statement (the work); the ties are given (YthghblmffdfbaaaGreatDoorTie.lean); close each card by the builder's one call (the guide's Derived/Test/ToyasCard.lean, 'card_holds'). Laid BY PROGRAM, IN A SANDBOX (cutbox-door.mjs). By AI agents, Wed Nov 11 2026. No macro, syntax, notation, axiom, sorry.
-/
import Derived.Test.YthghblmffdfbaaaGreatDoorRows
import GoSem.ClaimSeven
namespace Go.Proofs.YthghblmffdfbaaaGreatDoor
namespace Rows

/-- THE TIED CARD OF 'capnptop.WholePack'. -/
def wholePackCard : Claim7 := { stood := { row := wholePackRow, standIns := [], harness := (true, "a1508772d0bc11e21d5346f233d2aff995594c42dc14ae7d81e73eb14b26530c"), looks := true }, kinds := [], alts := [], laidByText := true, laidKinds := [.funcs, .handle, .sentinel, .sentinel, .data], laidTests := true, laidLooks := .later }
def WholePackCardSaid : Prop := Claim7.holds Tryz.pinned (.plain (OpenSpec.ofChange wholePackSpec)) wholePackCard

/-- THE TIED CARD OF 'capnptop.WholeWork'. -/
def wholeWorkCard : Claim7 := { stood := { row := wholeWorkRow, standIns := [], harness := (true, "a1508772d0bc11e21d5346f233d2aff995594c42dc14ae7d81e73eb14b26530c"), looks := true }, kinds := [], alts := [], laidByText := true, laidKinds := [.funcs, .handle, .sentinel, .sentinel, .data], laidTests := true, laidLooks := .later }
def WholeWorkCardSaid : Prop := Claim7.holds Tryz.pinned (.plain (OpenSpec.ofChange wholeWorkSpec)) wholeWorkCard

/-- THE TIED CARD OF 'capnptop.WholeTransport'. -/
def wholeTransportCard : Claim7 := { stood := { row := wholeTransportRow, standIns := [], harness := (true, "a1508772d0bc11e21d5346f233d2aff995594c42dc14ae7d81e73eb14b26530c"), looks := true }, kinds := [], alts := [], laidByText := true, laidKinds := [.funcs, .funcs, .handle, .sentinel, .sentinel, .data], laidTests := true, laidLooks := .later }
def WholeTransportCardSaid : Prop := Claim7.holds Tryz.pinned (.plain (OpenSpec.ofChange wholeTransportSpec)) wholeTransportCard

/-- THE TIED CARD OF 'capnptop.WholeDamage'. -/
def wholeDamageCard : Claim7 := { stood := { row := wholeDamageRow, standIns := [], harness := (true, "a1508772d0bc11e21d5346f233d2aff995594c42dc14ae7d81e73eb14b26530c"), looks := true }, kinds := [], alts := [], laidByText := true, laidKinds := [.funcs, .handle, .sentinel, .sentinel, .data], laidTests := true, laidLooks := .later }
def WholeDamageCardSaid : Prop := Claim7.holds Tryz.pinned (.plain (OpenSpec.ofChange wholeDamageSpec)) wholeDamageCard

/-- THE TIED CARD OF 'capnptop.WholeEqualHash'. -/
def wholeEqualHashCard : Claim7 := { stood := { row := wholeEqualHashRow, standIns := [], harness := (true, "a1508772d0bc11e21d5346f233d2aff995594c42dc14ae7d81e73eb14b26530c"), looks := true }, kinds := [], alts := [], laidByText := true, laidKinds := [.funcs, .handle, .sentinel, .sentinel, .data], laidTests := true, laidLooks := .later }
def WholeEqualHashCardSaid : Prop := Claim7.holds Tryz.pinned (.plain (OpenSpec.ofChange wholeEqualHashSpec)) wholeEqualHashCard

/-- THE SECOND FORM's CARD OF 'capnptop.WholePack'. -/
def wholePackUptoCard : Claim7 := { stood := { row := wholePackUptoRow, standIns := [], harness := (true, "a1508772d0bc11e21d5346f233d2aff995594c42dc14ae7d81e73eb14b26530c"), looks := true }, kinds := [], alts := [], laidByText := true, laidKinds := [.funcs, .handle, .sentinel, .sentinel, .data], laidTests := true, laidLooks := .later }
def WholePackUptoCardSaid : Prop := Claim7.holds Tryz.pinned (.plain (OpenSpec.upto wholePackSpec)) wholePackUptoCard

/-- THE SECOND FORM's CARD OF 'capnptop.WholeWork'. -/
def wholeWorkUptoCard : Claim7 := { stood := { row := wholeWorkUptoRow, standIns := [], harness := (true, "a1508772d0bc11e21d5346f233d2aff995594c42dc14ae7d81e73eb14b26530c"), looks := true }, kinds := [], alts := [], laidByText := true, laidKinds := [.funcs, .handle, .sentinel, .sentinel, .data], laidTests := true, laidLooks := .later }
def WholeWorkUptoCardSaid : Prop := Claim7.holds Tryz.pinned (.plain (OpenSpec.upto wholeWorkSpec)) wholeWorkUptoCard

/-- THE SECOND FORM's CARD OF 'capnptop.WholeTransport'. -/
def wholeTransportUptoCard : Claim7 := { stood := { row := wholeTransportUptoRow, standIns := [], harness := (true, "a1508772d0bc11e21d5346f233d2aff995594c42dc14ae7d81e73eb14b26530c"), looks := true }, kinds := [], alts := [], laidByText := true, laidKinds := [.funcs, .funcs, .handle, .sentinel, .sentinel, .data], laidTests := true, laidLooks := .later }
def WholeTransportUptoCardSaid : Prop := Claim7.holds Tryz.pinned (.plain (OpenSpec.upto wholeTransportSpec)) wholeTransportUptoCard

/-- THE SECOND FORM's CARD OF 'capnptop.WholeDamage'. -/
def wholeDamageUptoCard : Claim7 := { stood := { row := wholeDamageUptoRow, standIns := [], harness := (true, "a1508772d0bc11e21d5346f233d2aff995594c42dc14ae7d81e73eb14b26530c"), looks := true }, kinds := [], alts := [], laidByText := true, laidKinds := [.funcs, .handle, .sentinel, .sentinel, .data], laidTests := true, laidLooks := .later }
def WholeDamageUptoCardSaid : Prop := Claim7.holds Tryz.pinned (.plain (OpenSpec.upto wholeDamageSpec)) wholeDamageUptoCard

/-- THE SECOND FORM's CARD OF 'capnptop.WholeEqualHash'. -/
def wholeEqualHashUptoCard : Claim7 := { stood := { row := wholeEqualHashUptoRow, standIns := [], harness := (true, "a1508772d0bc11e21d5346f233d2aff995594c42dc14ae7d81e73eb14b26530c"), looks := true }, kinds := [], alts := [], laidByText := true, laidKinds := [.funcs, .handle, .sentinel, .sentinel, .data], laidTests := true, laidLooks := .later }
def WholeEqualHashUptoCardSaid : Prop := Claim7.holds Tryz.pinned (.plain (OpenSpec.upto wholeEqualHashSpec)) wholeEqualHashUptoCard
end Rows
end Go.Proofs.YthghblmffdfbaaaGreatDoor
