/-
  DERIVED. GIVEN WITH THE SEED: THE CARDS: each row of YtmpklplojfjfbaaDoorRows.lean that lists a variable, with what it lists TIED to the program's text (the seventh form; the later family's looks); each row that meets fmt, with fmt's text TOLD by the authors' own Lean function (tested against real Go, not proved from fmt's source: count such statements apart). THE CARD IS WHAT COUNTS. Prove the row's statement (the work); the ties are given (YtmpklplojfjfbaaDoorTie.lean); close each card by the builder's one call (the guide's Derived/Test/ToyasCard.lean, 'card_holds'). Laid BY PROGRAM, IN A SANDBOX (cutbox-door.mjs). By AI agents, Wed Nov 11 2026. No macro, syntax, notation, axiom, sorry.
-/
import Derived.Test.YtmpklplojfjfbaaDoorRows
import GoSem.ClaimSeven
namespace Go.Proofs.YtmpklplojfjfbaaDoor
namespace Rows

/-- THE TIED CARD OF 'baizelaw06.KeysNone'. -/
def keysNoneCard : Claim7 := { stood := { row := keysNoneRow, standIns := [], harness := (true, "4f158124d867c1ee0158a19df4081f50b1c693574cda85c67ef700021a53cac9"), looks := true }, kinds := [], alts := [], laidByText := true, laidKinds := [.data, .data, .data], laidTests := true, laidLooks := .later }
def KeysNoneCardSaid : Prop := Claim7.holds Tryd.pinned (.plain (OpenSpec.ofChange keysNoneSpec)) keysNoneCard

/-- THE TIED CARD OF 'baizelaw06.KeysOwn'. -/
def keysOwnCard : Claim7 := { stood := { row := keysOwnRow, standIns := [], harness := (true, "4f158124d867c1ee0158a19df4081f50b1c693574cda85c67ef700021a53cac9"), looks := true }, kinds := [], alts := [], laidByText := true, laidKinds := [.data, .data, .data], laidTests := true, laidLooks := .later }
def KeysOwnCardSaid : Prop := Claim7.holds Tryd.pinned (.plain (OpenSpec.ofChange keysOwnSpec)) keysOwnCard

/-- THE SECOND FORM's CARD OF 'baizelaw06.KeysNone'. -/
def keysNoneUptoCard : Claim7 := { stood := { row := keysNoneUptoRow, standIns := [], harness := (true, "4f158124d867c1ee0158a19df4081f50b1c693574cda85c67ef700021a53cac9"), looks := true }, kinds := [], alts := [], laidByText := true, laidKinds := [.data, .data, .data], laidTests := true, laidLooks := .later }
def KeysNoneUptoCardSaid : Prop := Claim7.holds Tryd.pinned (.plain (OpenSpec.upto keysNoneSpec)) keysNoneUptoCard

/-- THE SECOND FORM's CARD OF 'baizelaw06.KeysOwn'. -/
def keysOwnUptoCard : Claim7 := { stood := { row := keysOwnUptoRow, standIns := [], harness := (true, "4f158124d867c1ee0158a19df4081f50b1c693574cda85c67ef700021a53cac9"), looks := true }, kinds := [], alts := [], laidByText := true, laidKinds := [.data, .data, .data], laidTests := true, laidLooks := .later }
def KeysOwnUptoCardSaid : Prop := Claim7.holds Tryd.pinned (.plain (OpenSpec.upto keysOwnSpec)) keysOwnUptoCard
end Rows
end Go.Proofs.YtmpklplojfjfbaaDoor
