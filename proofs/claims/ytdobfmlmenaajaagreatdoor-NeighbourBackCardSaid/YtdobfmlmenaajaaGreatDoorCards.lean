/-
  DERIVED. GIVEN WITH THE SEED: THE CARDS: each row of YtdobfmlmenaajaaGreatDoorRows.lean that lists a variable, with what it lists TIED to the program's text (the seventh form; the later family's looks); each row that meets fmt, with fmt's text TOLD by the authors' own Lean function (tested against real Go, not proved from fmt's source: count such statements apart). THE CARD IS WHAT COUNTS. Prove the row's statement (the work); the ties are given (YtdobfmlmenaajaaGreatDoorTie.lean); close each card by the builder's one call (the guide's Derived/Test/ToyasCard.lean, 'card_holds'). Laid BY PROGRAM, IN A SANDBOX (cutbox-door.mjs). By AI agents, Wed Nov 11 2026. No macro, syntax, notation, axiom, sorry.
-/
import Derived.Test.YtdobfmlmenaajaaGreatDoorRows
import GoSem.ClaimSeven
namespace Go.Proofs.YtdobfmlmenaajaaGreatDoor
namespace Rows

/-- THE TIED CARD OF 'quadformlaw35.NeighbourForm'. -/
def neighbourFormCard : Claim7 := { stood := { row := neighbourFormRow, standIns := [], harness := (true, "bebc60a25c2f619f1e98ead424cab48bf8340b75439e606788c80450339ac87e"), looks := false }, kinds := [], alts := [], laidByText := true, laidKinds := [.data], laidTests := true, laidLooks := .later }
def NeighbourFormCardSaid : Prop := Claim7.holds Tryz.pinned (.plain (OpenSpec.ofChange neighbourFormSpec)) neighbourFormCard

/-- THE TIED CARD OF 'quadformlaw35.NeighbourVerify'. -/
def neighbourVerifyCard : Claim7 := { stood := { row := neighbourVerifyRow, standIns := [], harness := (true, "bebc60a25c2f619f1e98ead424cab48bf8340b75439e606788c80450339ac87e"), looks := false }, kinds := [], alts := [], laidByText := true, laidKinds := [.data], laidTests := true, laidLooks := .later }
def NeighbourVerifyCardSaid : Prop := Claim7.holds Tryz.pinned (.plain (OpenSpec.ofChange neighbourVerifySpec)) neighbourVerifyCard

/-- THE TIED CARD OF 'quadformlaw35.NeighbourRaw'. -/
def neighbourRawCard : Claim7 := { stood := { row := neighbourRawRow, standIns := [], harness := (true, "bebc60a25c2f619f1e98ead424cab48bf8340b75439e606788c80450339ac87e"), looks := false }, kinds := [], alts := [], laidByText := true, laidKinds := [.data], laidTests := true, laidLooks := .later }
def NeighbourRawCardSaid : Prop := Claim7.holds Tryz.pinned (.plain (OpenSpec.ofChange neighbourRawSpec)) neighbourRawCard

/-- THE TIED CARD OF 'quadformlaw35.NeighbourKeeps'. -/
def neighbourKeepsCard : Claim7 := { stood := { row := neighbourKeepsRow, standIns := [], harness := (true, "bebc60a25c2f619f1e98ead424cab48bf8340b75439e606788c80450339ac87e"), looks := false }, kinds := [], alts := [], laidByText := true, laidKinds := [.data], laidTests := true, laidLooks := .later }
def NeighbourKeepsCardSaid : Prop := Claim7.holds Tryz.pinned (.plain (OpenSpec.ofChange neighbourKeepsSpec)) neighbourKeepsCard

/-- THE TIED CARD OF 'quadformlaw35.NeighbourGram'. -/
def neighbourGramCard : Claim7 := { stood := { row := neighbourGramRow, standIns := [], harness := (true, "bebc60a25c2f619f1e98ead424cab48bf8340b75439e606788c80450339ac87e"), looks := false }, kinds := [], alts := [], laidByText := true, laidKinds := [.data], laidTests := true, laidLooks := .later }
def NeighbourGramCardSaid : Prop := Claim7.holds Tryz.pinned (.plain (OpenSpec.ofChange neighbourGramSpec)) neighbourGramCard

/-- THE TIED CARD OF 'quadformlaw35.NeighbourIndex'. -/
def neighbourIndexCard : Claim7 := { stood := { row := neighbourIndexRow, standIns := [], harness := (true, "bebc60a25c2f619f1e98ead424cab48bf8340b75439e606788c80450339ac87e"), looks := false }, kinds := [], alts := [], laidByText := true, laidKinds := [.data], laidTests := true, laidLooks := .later }
def NeighbourIndexCardSaid : Prop := Claim7.holds Tryz.pinned (.plain (OpenSpec.ofChange neighbourIndexSpec)) neighbourIndexCard

/-- THE TIED CARD OF 'quadformlaw35.NeighbourMembers'. -/
def neighbourMembersCard : Claim7 := { stood := { row := neighbourMembersRow, standIns := [], harness := (true, "bebc60a25c2f619f1e98ead424cab48bf8340b75439e606788c80450339ac87e"), looks := false }, kinds := [], alts := [], laidByText := true, laidKinds := [.data], laidTests := true, laidLooks := .later }
def NeighbourMembersCardSaid : Prop := Claim7.holds Tryz.pinned (.plain (OpenSpec.ofChange neighbourMembersSpec)) neighbourMembersCard

/-- THE TIED CARD OF 'quadformlaw35.NeighbourBack'. -/
def neighbourBackCard : Claim7 := { stood := { row := neighbourBackRow, standIns := [], harness := (true, "bebc60a25c2f619f1e98ead424cab48bf8340b75439e606788c80450339ac87e"), looks := false }, kinds := [], alts := [], laidByText := true, laidKinds := [.data], laidTests := true, laidLooks := .later }
def NeighbourBackCardSaid : Prop := Claim7.holds Tryz.pinned (.plain (OpenSpec.ofChange neighbourBackSpec)) neighbourBackCard

/-- THE SECOND FORM's CARD OF 'quadformlaw35.NeighbourForm'. -/
def neighbourFormUptoCard : Claim7 := { stood := { row := neighbourFormUptoRow, standIns := [], harness := (true, "bebc60a25c2f619f1e98ead424cab48bf8340b75439e606788c80450339ac87e"), looks := false }, kinds := [], alts := [], laidByText := true, laidKinds := [.data], laidTests := true, laidLooks := .later }
def NeighbourFormUptoCardSaid : Prop := Claim7.holds Tryz.pinned (.plain (OpenSpec.upto neighbourFormSpec)) neighbourFormUptoCard

/-- THE SECOND FORM's CARD OF 'quadformlaw35.NeighbourVerify'. -/
def neighbourVerifyUptoCard : Claim7 := { stood := { row := neighbourVerifyUptoRow, standIns := [], harness := (true, "bebc60a25c2f619f1e98ead424cab48bf8340b75439e606788c80450339ac87e"), looks := false }, kinds := [], alts := [], laidByText := true, laidKinds := [.data], laidTests := true, laidLooks := .later }
def NeighbourVerifyUptoCardSaid : Prop := Claim7.holds Tryz.pinned (.plain (OpenSpec.upto neighbourVerifySpec)) neighbourVerifyUptoCard

/-- THE SECOND FORM's CARD OF 'quadformlaw35.NeighbourRaw'. -/
def neighbourRawUptoCard : Claim7 := { stood := { row := neighbourRawUptoRow, standIns := [], harness := (true, "bebc60a25c2f619f1e98ead424cab48bf8340b75439e606788c80450339ac87e"), looks := false }, kinds := [], alts := [], laidByText := true, laidKinds := [.data], laidTests := true, laidLooks := .later }
def NeighbourRawUptoCardSaid : Prop := Claim7.holds Tryz.pinned (.plain (OpenSpec.upto neighbourRawSpec)) neighbourRawUptoCard

/-- THE SECOND FORM's CARD OF 'quadformlaw35.NeighbourKeeps'. -/
def neighbourKeepsUptoCard : Claim7 := { stood := { row := neighbourKeepsUptoRow, standIns := [], harness := (true, "bebc60a25c2f619f1e98ead424cab48bf8340b75439e606788c80450339ac87e"), looks := false }, kinds := [], alts := [], laidByText := true, laidKinds := [.data], laidTests := true, laidLooks := .later }
def NeighbourKeepsUptoCardSaid : Prop := Claim7.holds Tryz.pinned (.plain (OpenSpec.upto neighbourKeepsSpec)) neighbourKeepsUptoCard

/-- THE SECOND FORM's CARD OF 'quadformlaw35.NeighbourGram'. -/
def neighbourGramUptoCard : Claim7 := { stood := { row := neighbourGramUptoRow, standIns := [], harness := (true, "bebc60a25c2f619f1e98ead424cab48bf8340b75439e606788c80450339ac87e"), looks := false }, kinds := [], alts := [], laidByText := true, laidKinds := [.data], laidTests := true, laidLooks := .later }
def NeighbourGramUptoCardSaid : Prop := Claim7.holds Tryz.pinned (.plain (OpenSpec.upto neighbourGramSpec)) neighbourGramUptoCard

/-- THE SECOND FORM's CARD OF 'quadformlaw35.NeighbourIndex'. -/
def neighbourIndexUptoCard : Claim7 := { stood := { row := neighbourIndexUptoRow, standIns := [], harness := (true, "bebc60a25c2f619f1e98ead424cab48bf8340b75439e606788c80450339ac87e"), looks := false }, kinds := [], alts := [], laidByText := true, laidKinds := [.data], laidTests := true, laidLooks := .later }
def NeighbourIndexUptoCardSaid : Prop := Claim7.holds Tryz.pinned (.plain (OpenSpec.upto neighbourIndexSpec)) neighbourIndexUptoCard

/-- THE SECOND FORM's CARD OF 'quadformlaw35.NeighbourMembers'. -/
def neighbourMembersUptoCard : Claim7 := { stood := { row := neighbourMembersUptoRow, standIns := [], harness := (true, "bebc60a25c2f619f1e98ead424cab48bf8340b75439e606788c80450339ac87e"), looks := false }, kinds := [], alts := [], laidByText := true, laidKinds := [.data], laidTests := true, laidLooks := .later }
def NeighbourMembersUptoCardSaid : Prop := Claim7.holds Tryz.pinned (.plain (OpenSpec.upto neighbourMembersSpec)) neighbourMembersUptoCard

/-- THE SECOND FORM's CARD OF 'quadformlaw35.NeighbourBack'. -/
def neighbourBackUptoCard : Claim7 := { stood := { row := neighbourBackUptoRow, standIns := [], harness := (true, "bebc60a25c2f619f1e98ead424cab48bf8340b75439e606788c80450339ac87e"), looks := false }, kinds := [], alts := [], laidByText := true, laidKinds := [.data], laidTests := true, laidLooks := .later }
def NeighbourBackUptoCardSaid : Prop := Claim7.holds Tryz.pinned (.plain (OpenSpec.upto neighbourBackSpec)) neighbourBackUptoCard
end Rows
end Go.Proofs.YtdobfmlmenaajaaGreatDoor
