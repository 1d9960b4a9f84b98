/-
  DERIVED. GIVEN WITH THE SEED: THE CARDS: each row of YtnchacmhjbkmhaaDoorRows.lean that lists a variable, with what it lists TIED to the program's text (the seventh form; the later family's looks); each row that meets fmt, with fmt's text TOLD by the authors' own Lean function (tested against real Go, not proved from fmt's source: count such statements apart). THE CARD IS WHAT COUNTS. Prove the row's statement (the work); the ties are given (YtnchacmhjbkmhaaDoorTie.lean); close each card by the builder's one call (the guide's Derived/Test/ToyasCard.lean, 'card_holds'). Laid BY PROGRAM, IN A SANDBOX (cutbox-door.mjs). By AI agents, Wed Nov 11 2026. No macro, syntax, notation, axiom, sorry.
-/
import Derived.Test.YtnchacmhjbkmhaaDoorRows
import GoSem.ClaimSeven
namespace Go.Proofs.YtnchacmhjbkmhaaDoor
namespace Rows

/-- THE TIED CARD OF 'capnplaw23.GrammarMatchesReference'. -/
def grammarMatchesReferenceCard : Claim7 := { stood := { row := grammarMatchesReferenceRow, standIns := [], harness := (true, "83f70ec2eb35c15f8880977cb2df2e80c5cfcd9240a098e5c744fe91b50b2f64"), looks := true }, kinds := [], alts := [], laidByText := true, laidKinds := [.sentinel, .sentinel], laidTests := true, laidLooks := .later }
def GrammarMatchesReferenceCardSaid : Prop := Claim7.holds Tryd.pinned (.plain (OpenSpec.ofChange grammarMatchesReferenceSpec)) grammarMatchesReferenceCard

/-- THE TIED CARD OF 'capnplaw23.GrammarPackAccepted'. -/
def grammarPackAcceptedCard : Claim7 := { stood := { row := grammarPackAcceptedRow, standIns := [], harness := (true, "83f70ec2eb35c15f8880977cb2df2e80c5cfcd9240a098e5c744fe91b50b2f64"), looks := true }, kinds := [], alts := [], laidByText := true, laidKinds := [.sentinel, .sentinel], laidTests := true, laidLooks := .later }
def GrammarPackAcceptedCardSaid : Prop := Claim7.holds Tryd.pinned (.plain (OpenSpec.ofChange grammarPackAcceptedSpec)) grammarPackAcceptedCard

/-- THE TIED CARD OF 'capnplaw23.GrammarGroups'. -/
def grammarGroupsCard : Claim7 := { stood := { row := grammarGroupsRow, standIns := [], harness := (true, "83f70ec2eb35c15f8880977cb2df2e80c5cfcd9240a098e5c744fe91b50b2f64"), looks := true }, kinds := [], alts := [], laidByText := true, laidKinds := [.sentinel, .sentinel], laidTests := true, laidLooks := .later }
def GrammarGroupsCardSaid : Prop := Claim7.holds Tryd.pinned (.plain (OpenSpec.ofChange grammarGroupsSpec)) grammarGroupsCard

/-- THE TIED CARD OF 'capnplaw23.GrammarChoices'. -/
def grammarChoicesCard : Claim7 := { stood := { row := grammarChoicesRow, standIns := [], harness := (true, "83f70ec2eb35c15f8880977cb2df2e80c5cfcd9240a098e5c744fe91b50b2f64"), looks := true }, kinds := [], alts := [], laidByText := true, laidKinds := [.sentinel, .sentinel], laidTests := true, laidLooks := .later }
def GrammarChoicesCardSaid : Prop := Claim7.holds Tryd.pinned (.plain (OpenSpec.ofChange grammarChoicesSpec)) grammarChoicesCard

/-- THE TIED CARD OF 'capnplaw23.GrammarShortest'. -/
def grammarShortestCard : Claim7 := { stood := { row := grammarShortestRow, standIns := [], harness := (true, "83f70ec2eb35c15f8880977cb2df2e80c5cfcd9240a098e5c744fe91b50b2f64"), looks := true }, kinds := [], alts := [], laidByText := true, laidKinds := [.sentinel, .sentinel], laidTests := true, laidLooks := .later }
def GrammarShortestCardSaid : Prop := Claim7.holds Tryd.pinned (.plain (OpenSpec.ofChange grammarShortestSpec)) grammarShortestCard

/-- THE TIED CARD OF 'capnplaw23.GrammarKeeps'. -/
def grammarKeepsCard : Claim7 := { stood := { row := grammarKeepsRow, standIns := [], harness := (true, "83f70ec2eb35c15f8880977cb2df2e80c5cfcd9240a098e5c744fe91b50b2f64"), looks := true }, kinds := [], alts := [], laidByText := true, laidKinds := [.sentinel, .sentinel], laidTests := true, laidLooks := .later }
def GrammarKeepsCardSaid : Prop := Claim7.holds Tryd.pinned (.plain (OpenSpec.ofChange grammarKeepsSpec)) grammarKeepsCard

/-- THE SECOND FORM's CARD OF 'capnplaw23.GrammarMatchesReference'. -/
def grammarMatchesReferenceUptoCard : Claim7 := { stood := { row := grammarMatchesReferenceUptoRow, standIns := [], harness := (true, "83f70ec2eb35c15f8880977cb2df2e80c5cfcd9240a098e5c744fe91b50b2f64"), looks := true }, kinds := [], alts := [], laidByText := true, laidKinds := [.sentinel, .sentinel], laidTests := true, laidLooks := .later }
def GrammarMatchesReferenceUptoCardSaid : Prop := Claim7.holds Tryd.pinned (.plain (OpenSpec.upto grammarMatchesReferenceSpec)) grammarMatchesReferenceUptoCard

/-- THE SECOND FORM's CARD OF 'capnplaw23.GrammarPackAccepted'. -/
def grammarPackAcceptedUptoCard : Claim7 := { stood := { row := grammarPackAcceptedUptoRow, standIns := [], harness := (true, "83f70ec2eb35c15f8880977cb2df2e80c5cfcd9240a098e5c744fe91b50b2f64"), looks := true }, kinds := [], alts := [], laidByText := true, laidKinds := [.sentinel, .sentinel], laidTests := true, laidLooks := .later }
def GrammarPackAcceptedUptoCardSaid : Prop := Claim7.holds Tryd.pinned (.plain (OpenSpec.upto grammarPackAcceptedSpec)) grammarPackAcceptedUptoCard

/-- THE SECOND FORM's CARD OF 'capnplaw23.GrammarGroups'. -/
def grammarGroupsUptoCard : Claim7 := { stood := { row := grammarGroupsUptoRow, standIns := [], harness := (true, "83f70ec2eb35c15f8880977cb2df2e80c5cfcd9240a098e5c744fe91b50b2f64"), looks := true }, kinds := [], alts := [], laidByText := true, laidKinds := [.sentinel, .sentinel], laidTests := true, laidLooks := .later }
def GrammarGroupsUptoCardSaid : Prop := Claim7.holds Tryd.pinned (.plain (OpenSpec.upto grammarGroupsSpec)) grammarGroupsUptoCard

/-- THE SECOND FORM's CARD OF 'capnplaw23.GrammarChoices'. -/
def grammarChoicesUptoCard : Claim7 := { stood := { row := grammarChoicesUptoRow, standIns := [], harness := (true, "83f70ec2eb35c15f8880977cb2df2e80c5cfcd9240a098e5c744fe91b50b2f64"), looks := true }, kinds := [], alts := [], laidByText := true, laidKinds := [.sentinel, .sentinel], laidTests := true, laidLooks := .later }
def GrammarChoicesUptoCardSaid : Prop := Claim7.holds Tryd.pinned (.plain (OpenSpec.upto grammarChoicesSpec)) grammarChoicesUptoCard

/-- THE SECOND FORM's CARD OF 'capnplaw23.GrammarShortest'. -/
def grammarShortestUptoCard : Claim7 := { stood := { row := grammarShortestUptoRow, standIns := [], harness := (true, "83f70ec2eb35c15f8880977cb2df2e80c5cfcd9240a098e5c744fe91b50b2f64"), looks := true }, kinds := [], alts := [], laidByText := true, laidKinds := [.sentinel, .sentinel], laidTests := true, laidLooks := .later }
def GrammarShortestUptoCardSaid : Prop := Claim7.holds Tryd.pinned (.plain (OpenSpec.upto grammarShortestSpec)) grammarShortestUptoCard

/-- THE SECOND FORM's CARD OF 'capnplaw23.GrammarKeeps'. -/
def grammarKeepsUptoCard : Claim7 := { stood := { row := grammarKeepsUptoRow, standIns := [], harness := (true, "83f70ec2eb35c15f8880977cb2df2e80c5cfcd9240a098e5c744fe91b50b2f64"), looks := true }, kinds := [], alts := [], laidByText := true, laidKinds := [.sentinel, .sentinel], laidTests := true, laidLooks := .later }
def GrammarKeepsUptoCardSaid : Prop := Claim7.holds Tryd.pinned (.plain (OpenSpec.upto grammarKeepsSpec)) grammarKeepsUptoCard
end Rows
end Go.Proofs.YtnchacmhjbkmhaaDoor
