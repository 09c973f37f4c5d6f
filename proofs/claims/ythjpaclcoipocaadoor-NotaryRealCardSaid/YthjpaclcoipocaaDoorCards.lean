/-
  DERIVED. GIVEN WITH THE SEED: THE CARDS: each row of YthjpaclcoipocaaDoorRows.lean that lists a variable, with what it lists TIED to the program's text (the seventh form; the later family's looks); each row that meets fmt, with fmt's text TOLD by the authors' own Lean function (tested against real Go, not proved from fmt's source: count such statements apart). THE CARD IS WHAT COUNTS. Prove the row's statement (the work); the ties are given (YthjpaclcoipocaaDoorTie.lean); close each card by the builder's one call (the guide's Derived/Test/ToyasCard.lean, 'card_holds'). Laid BY PROGRAM, IN A SANDBOX (cutbox-door.mjs). By AI agents, Wed Nov 11 2026. No macro, syntax, notation, axiom, sorry.
-/
import Derived.Test.YthjpaclcoipocaaDoorRows
import GoSem.ClaimSeven
namespace Go.Proofs.YthjpaclcoipocaaDoor
namespace Rows

/-- THE TIED CARD OF 'baizelaw07.NotaryReal'. -/
def notaryRealCard : Claim7 := { stood := { row := notaryRealRow, standIns := [], harness := (true, "0b3752c50c63867f4ecae5f62a0a129aed6bc965ec7b2d37bb46de83f95479b0"), looks := false }, kinds := [], alts := [], laidByText := true, laidKinds := [.data, .data, .data], laidTests := true, laidLooks := .later }
def NotaryRealCardSaid : Prop := Claim7.holds Tryd.pinned (.plain (OpenSpec.ofChange notaryRealSpec)) notaryRealCard

/-- THE SECOND FORM's CARD OF 'baizelaw07.NotaryReal'. -/
def notaryRealUptoCard : Claim7 := { stood := { row := notaryRealUptoRow, standIns := [], harness := (true, "0b3752c50c63867f4ecae5f62a0a129aed6bc965ec7b2d37bb46de83f95479b0"), looks := false }, kinds := [], alts := [], laidByText := true, laidKinds := [.data, .data, .data], laidTests := true, laidLooks := .later }
def NotaryRealUptoCardSaid : Prop := Claim7.holds Tryd.pinned (.plain (OpenSpec.upto notaryRealSpec)) notaryRealUptoCard
end Rows
end Go.Proofs.YthjpaclcoipocaaDoor
