/-
  DERIVED. GIVEN WITH THE SEED: THE CARDS: each row of YtecolkpnllikaaaDoorRows.lean that lists a variable, with what it lists TIED to the program's text (the seventh form; the later family's looks); each row that meets fmt, with fmt's text TOLD by the authors' own Lean function (tested against real Go, not proved from fmt's source: count such statements apart). THE CARD IS WHAT COUNTS. Prove the row's statement (the work); the ties are given (YtecolkpnllikaaaDoorTie.lean); close each card by the builder's one call (the guide's Derived/Test/ToyasCard.lean, 'card_holds'). Laid BY PROGRAM, IN A SANDBOX (cutbox-door.mjs). By AI agents, Wed Nov 11 2026. No macro, syntax, notation, axiom, sorry.
-/
import Derived.Test.YtecolkpnllikaaaDoorRows
import GoSem.ClaimSeven
namespace Go.Proofs.YtecolkpnllikaaaDoor
namespace Rows

/-- THE TIED CARD OF 'baizelaw14.CodeWays'. -/
def codeWaysCard : Claim7 := { stood := { row := codeWaysRow, standIns := [], harness := (true, "661136b9fe745c229fd6bcf93dab862ecce9a211b0674aebcc0227d7b13d3ad6"), looks := false }, kinds := [], alts := [], laidByText := true, laidKinds := [.data], laidTests := true, laidLooks := .later }
def CodeWaysCardSaid : Prop := Claim7.holds Tryd.pinned (.plain (OpenSpec.ofChange codeWaysSpec)) codeWaysCard

/-- THE TIED CARD OF 'baizelaw14.CodeRights'. -/
def codeRightsCard : Claim7 := { stood := { row := codeRightsRow, standIns := [], harness := (true, "661136b9fe745c229fd6bcf93dab862ecce9a211b0674aebcc0227d7b13d3ad6"), looks := false }, kinds := [], alts := [], laidByText := true, laidKinds := [.data], laidTests := true, laidLooks := .later }
def CodeRightsCardSaid : Prop := Claim7.holds Tryd.pinned (.plain (OpenSpec.ofChange codeRightsSpec)) codeRightsCard

/-- THE TIED CARD OF 'baizelaw14.CodeWithin'. -/
def codeWithinCard : Claim7 := { stood := { row := codeWithinRow, standIns := [], harness := (true, "661136b9fe745c229fd6bcf93dab862ecce9a211b0674aebcc0227d7b13d3ad6"), looks := false }, kinds := [], alts := [], laidByText := true, laidKinds := [.data], laidTests := true, laidLooks := .later }
def CodeWithinCardSaid : Prop := Claim7.holds Tryd.pinned (.plain (OpenSpec.ofChange codeWithinSpec)) codeWithinCard

/-- THE TIED CARD OF 'baizelaw14.CodeBytes'. -/
def codeBytesCard : Claim7 := { stood := { row := codeBytesRow, standIns := [], harness := (true, "661136b9fe745c229fd6bcf93dab862ecce9a211b0674aebcc0227d7b13d3ad6"), looks := false }, kinds := [], alts := [], laidByText := true, laidKinds := [.data], laidTests := true, laidLooks := .later }
def CodeBytesCardSaid : Prop := Claim7.holds Tryd.pinned (.plain (OpenSpec.ofChange codeBytesSpec)) codeBytesCard

/-- THE TIED CARD OF 'baizelaw14.CodeBack'. -/
def codeBackCard : Claim7 := { stood := { row := codeBackRow, standIns := [], harness := (true, "661136b9fe745c229fd6bcf93dab862ecce9a211b0674aebcc0227d7b13d3ad6"), looks := false }, kinds := [], alts := [], laidByText := true, laidKinds := [.data], laidTests := true, laidLooks := .later }
def CodeBackCardSaid : Prop := Claim7.holds Tryd.pinned (.plain (OpenSpec.ofChange codeBackSpec)) codeBackCard

/-- THE TIED CARD OF 'baizelaw14.CodeThere'. -/
def codeThereCard : Claim7 := { stood := { row := codeThereRow, standIns := [], harness := (true, "661136b9fe745c229fd6bcf93dab862ecce9a211b0674aebcc0227d7b13d3ad6"), looks := false }, kinds := [], alts := [], laidByText := true, laidKinds := [.data, .data, .data, .data, .data, .pinned], laidTests := true, laidLooks := .later }
def CodeThereCardSaid : Prop := Claim7.holds Tryd.pinned (.plain (OpenSpec.ofChange codeThereSpec)) codeThereCard

/-- THE TIED CARD OF 'baizelaw14.CodeKeeps'. -/
def codeKeepsCard : Claim7 := { stood := { row := codeKeepsRow, standIns := [], harness := (true, "661136b9fe745c229fd6bcf93dab862ecce9a211b0674aebcc0227d7b13d3ad6"), looks := false }, kinds := [], alts := [], laidByText := true, laidKinds := [.data, .data, .data, .data, .data, .pinned], laidTests := true, laidLooks := .later }
def CodeKeepsCardSaid : Prop := Claim7.holds Tryd.pinned (.plain (OpenSpec.ofChange codeKeepsSpec)) codeKeepsCard

/-- THE SECOND FORM's CARD OF 'baizelaw14.CodeWays'. -/
def codeWaysUptoCard : Claim7 := { stood := { row := codeWaysUptoRow, standIns := [], harness := (true, "661136b9fe745c229fd6bcf93dab862ecce9a211b0674aebcc0227d7b13d3ad6"), looks := false }, kinds := [], alts := [], laidByText := true, laidKinds := [.data], laidTests := true, laidLooks := .later }
def CodeWaysUptoCardSaid : Prop := Claim7.holds Tryd.pinned (.plain (OpenSpec.upto codeWaysSpec)) codeWaysUptoCard

/-- THE SECOND FORM's CARD OF 'baizelaw14.CodeRights'. -/
def codeRightsUptoCard : Claim7 := { stood := { row := codeRightsUptoRow, standIns := [], harness := (true, "661136b9fe745c229fd6bcf93dab862ecce9a211b0674aebcc0227d7b13d3ad6"), looks := false }, kinds := [], alts := [], laidByText := true, laidKinds := [.data], laidTests := true, laidLooks := .later }
def CodeRightsUptoCardSaid : Prop := Claim7.holds Tryd.pinned (.plain (OpenSpec.upto codeRightsSpec)) codeRightsUptoCard

/-- THE SECOND FORM's CARD OF 'baizelaw14.CodeWithin'. -/
def codeWithinUptoCard : Claim7 := { stood := { row := codeWithinUptoRow, standIns := [], harness := (true, "661136b9fe745c229fd6bcf93dab862ecce9a211b0674aebcc0227d7b13d3ad6"), looks := false }, kinds := [], alts := [], laidByText := true, laidKinds := [.data], laidTests := true, laidLooks := .later }
def CodeWithinUptoCardSaid : Prop := Claim7.holds Tryd.pinned (.plain (OpenSpec.upto codeWithinSpec)) codeWithinUptoCard

/-- THE SECOND FORM's CARD OF 'baizelaw14.CodeBytes'. -/
def codeBytesUptoCard : Claim7 := { stood := { row := codeBytesUptoRow, standIns := [], harness := (true, "661136b9fe745c229fd6bcf93dab862ecce9a211b0674aebcc0227d7b13d3ad6"), looks := false }, kinds := [], alts := [], laidByText := true, laidKinds := [.data], laidTests := true, laidLooks := .later }
def CodeBytesUptoCardSaid : Prop := Claim7.holds Tryd.pinned (.plain (OpenSpec.upto codeBytesSpec)) codeBytesUptoCard

/-- THE SECOND FORM's CARD OF 'baizelaw14.CodeBack'. -/
def codeBackUptoCard : Claim7 := { stood := { row := codeBackUptoRow, standIns := [], harness := (true, "661136b9fe745c229fd6bcf93dab862ecce9a211b0674aebcc0227d7b13d3ad6"), looks := false }, kinds := [], alts := [], laidByText := true, laidKinds := [.data], laidTests := true, laidLooks := .later }
def CodeBackUptoCardSaid : Prop := Claim7.holds Tryd.pinned (.plain (OpenSpec.upto codeBackSpec)) codeBackUptoCard

/-- THE SECOND FORM's CARD OF 'baizelaw14.CodeThere'. -/
def codeThereUptoCard : Claim7 := { stood := { row := codeThereUptoRow, standIns := [], harness := (true, "661136b9fe745c229fd6bcf93dab862ecce9a211b0674aebcc0227d7b13d3ad6"), looks := false }, kinds := [], alts := [], laidByText := true, laidKinds := [.data, .data, .data, .data, .data, .pinned], laidTests := true, laidLooks := .later }
def CodeThereUptoCardSaid : Prop := Claim7.holds Tryd.pinned (.plain (OpenSpec.upto codeThereSpec)) codeThereUptoCard

/-- THE SECOND FORM's CARD OF 'baizelaw14.CodeKeeps'. -/
def codeKeepsUptoCard : Claim7 := { stood := { row := codeKeepsUptoRow, standIns := [], harness := (true, "661136b9fe745c229fd6bcf93dab862ecce9a211b0674aebcc0227d7b13d3ad6"), looks := false }, kinds := [], alts := [], laidByText := true, laidKinds := [.data, .data, .data, .data, .data, .pinned], laidTests := true, laidLooks := .later }
def CodeKeepsUptoCardSaid : Prop := Claim7.holds Tryd.pinned (.plain (OpenSpec.upto codeKeepsSpec)) codeKeepsUptoCard
end Rows
end Go.Proofs.YtecolkpnllikaaaDoor
