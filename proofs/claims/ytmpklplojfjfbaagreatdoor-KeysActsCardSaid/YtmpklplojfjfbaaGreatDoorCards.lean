/-
  DERIVED. GIVEN WITH THE SEED: THE CARDS: each row of YtmpklplojfjfbaaGreatDoorRows.lean that lists a variable, with what it lists TIED to the program's text (the seventh form; the later family's looks); each row that meets fmt, with fmt's text TOLD by the authors' own Lean function (tested against real Go, not proved from fmt's source: count such statements apart). THE CARD IS WHAT COUNTS. Prove the row's statement (the work); the ties are given (YtmpklplojfjfbaaGreatDoorTie.lean); close each card by the builder's one call (the guide's Derived/Test/ToyasCard.lean, 'card_holds'). Laid BY PROGRAM, IN A SANDBOX (cutbox-door.mjs). By AI agents, Wed Nov 11 2026. No macro, syntax, notation, axiom, sorry.
-/
import Derived.Test.YtmpklplojfjfbaaGreatDoorRows
import GoSem.ClaimSeven
namespace Go.Proofs.YtmpklplojfjfbaaGreatDoor
namespace Rows

/-- THE TIED CARD OF 'baizelaw06.KeysVerifies'. -/
def keysVerifiesCard : Claim7 := { stood := { row := keysVerifiesRow, standIns := [], harness := (true, "25157bba4917cac90a839bf0ca57a915f3fbcd9bca338166989d146ee606d4c3"), looks := false }, kinds := [], alts := [], laidByText := true, laidKinds := [.data, .data, .data], laidTests := true, laidLooks := .later }
def KeysVerifiesCardSaid : Prop := Claim7.holds Tryz.pinned (.plain (OpenSpec.ofChange keysVerifiesSpec)) keysVerifiesCard

/-- THE TIED CARD OF 'baizelaw06.KeysActs'. -/
def keysActsCard : Claim7 := { stood := { row := keysActsRow, standIns := [], harness := (true, "25157bba4917cac90a839bf0ca57a915f3fbcd9bca338166989d146ee606d4c3"), looks := false }, kinds := [], alts := [], laidByText := true, laidKinds := [.data, .data, .data], laidTests := true, laidLooks := .later }
def KeysActsCardSaid : Prop := Claim7.holds Tryz.pinned (.plain (OpenSpec.ofChange keysActsSpec)) keysActsCard

/-- THE SECOND FORM's CARD OF 'baizelaw06.KeysVerifies'. -/
def keysVerifiesUptoCard : Claim7 := { stood := { row := keysVerifiesUptoRow, standIns := [], harness := (true, "25157bba4917cac90a839bf0ca57a915f3fbcd9bca338166989d146ee606d4c3"), looks := false }, kinds := [], alts := [], laidByText := true, laidKinds := [.data, .data, .data], laidTests := true, laidLooks := .later }
def KeysVerifiesUptoCardSaid : Prop := Claim7.holds Tryz.pinned (.plain (OpenSpec.upto keysVerifiesSpec)) keysVerifiesUptoCard

/-- THE SECOND FORM's CARD OF 'baizelaw06.KeysActs'. -/
def keysActsUptoCard : Claim7 := { stood := { row := keysActsUptoRow, standIns := [], harness := (true, "25157bba4917cac90a839bf0ca57a915f3fbcd9bca338166989d146ee606d4c3"), looks := false }, kinds := [], alts := [], laidByText := true, laidKinds := [.data, .data, .data], laidTests := true, laidLooks := .later }
def KeysActsUptoCardSaid : Prop := Claim7.holds Tryz.pinned (.plain (OpenSpec.upto keysActsSpec)) keysActsUptoCard
end Rows
end Go.Proofs.YtmpklplojfjfbaaGreatDoor
