/-
  DERIVED. GIVEN WITH THE SEED: THE CARDS: each row of YtigolkdclacikaaDoorRows.lean that lists a variable, with what it lists TIED to the program's text (the seventh form; the later family's looks); each row that meets fmt, with fmt's text TOLD by the authors' own Lean function (tested against real Go, not proved from fmt's source: count such statements apart). THE CARD IS WHAT COUNTS. Prove the row's statement (the work); the ties are given (YtigolkdclacikaaDoorTie.lean); close each card by the builder's one call (the guide's Derived/Test/ToyasCard.lean, 'card_holds'). Laid BY PROGRAM, IN A SANDBOX (cutbox-door.mjs). By AI agents, Wed Nov 11 2026. No macro, syntax, notation, axiom, sorry.
-/
import Derived.Test.YtigolkdclacikaaDoorRows
import GoSem.ClaimSeven
namespace Go.Proofs.YtigolkdclacikaaDoor
namespace Rows

/-- THE TIED CARD OF 'baizelaw55.CheatChecks'. -/
def cheatChecksCard : Claim7 := { stood := { row := cheatChecksRow, standIns := [], harness := (true, "43fd1969fba4e7b7d1eb574c6e5b6df682c21ccc73c87abfa9a789a84023d328"), looks := false }, kinds := [], alts := [], laidByText := true, laidKinds := [.data, .pinned], laidTests := true, laidLooks := .later }
def CheatChecksCardSaid : Prop := Claim7.holds Tryd.pinned (.plain (OpenSpec.ofChange cheatChecksSpec)) cheatChecksCard

/-- THE TIED CARD OF 'baizelaw55.CheatPicks'. -/
def cheatPicksCard : Claim7 := { stood := { row := cheatPicksRow, standIns := [], harness := (true, "43fd1969fba4e7b7d1eb574c6e5b6df682c21ccc73c87abfa9a789a84023d328"), looks := false }, kinds := [], alts := [], laidByText := true, laidKinds := [.data, .pinned], laidTests := true, laidLooks := .later }
def CheatPicksCardSaid : Prop := Claim7.holds Tryd.pinned (.plain (OpenSpec.ofChange cheatPicksSpec)) cheatPicksCard

/-- THE TIED CARD OF 'baizelaw55.CheatDraws'. -/
def cheatDrawsCard : Claim7 := { stood := { row := cheatDrawsRow, standIns := [], harness := (true, "43fd1969fba4e7b7d1eb574c6e5b6df682c21ccc73c87abfa9a789a84023d328"), looks := false }, kinds := [], alts := [], laidByText := true, laidKinds := [.data, .pinned], laidTests := true, laidLooks := .later }
def CheatDrawsCardSaid : Prop := Claim7.holds Tryd.pinned (.plain (OpenSpec.ofChange cheatDrawsSpec)) cheatDrawsCard

/-- THE TIED CARD OF 'baizelaw55.CheatMay'. -/
def cheatMayCard : Claim7 := { stood := { row := cheatMayRow, standIns := [], harness := (true, "43fd1969fba4e7b7d1eb574c6e5b6df682c21ccc73c87abfa9a789a84023d328"), looks := false }, kinds := [], alts := [], laidByText := true, laidKinds := [.data, .pinned], laidTests := true, laidLooks := .later }
def CheatMayCardSaid : Prop := Claim7.holds Tryd.pinned (.plain (OpenSpec.ofChange cheatMaySpec)) cheatMayCard

/-- THE TIED CARD OF 'baizelaw55.CheatWhole'. -/
def cheatWholeCard : Claim7 := { stood := { row := cheatWholeRow, standIns := [], harness := (true, "43fd1969fba4e7b7d1eb574c6e5b6df682c21ccc73c87abfa9a789a84023d328"), looks := false }, kinds := [], alts := [], laidByText := true, laidKinds := [.data, .pinned], laidTests := true, laidLooks := .later }
def CheatWholeCardSaid : Prop := Claim7.holds Tryd.pinned (.plain (OpenSpec.ofChange cheatWholeSpec)) cheatWholeCard

/-- THE TIED CARD OF 'baizelaw55.CheatPrints'. -/
def cheatPrintsCard : Claim7 := { stood := { row := cheatPrintsRow, standIns := [], harness := (true, "43fd1969fba4e7b7d1eb574c6e5b6df682c21ccc73c87abfa9a789a84023d328"), looks := false }, kinds := [], alts := [], laidByText := true, laidKinds := [.data, .data, .data, .data, .pinned], laidTests := true, laidLooks := .later }
def CheatPrintsCardSaid : Prop := Claim7.holds Tryd.pinned (.plain (OpenSpec.ofChange cheatPrintsSpec)) cheatPrintsCard

/-- THE TIED CARD OF 'baizelaw55.CheatBack'. -/
def cheatBackCard : Claim7 := { stood := { row := cheatBackRow, standIns := [], harness := (true, "43fd1969fba4e7b7d1eb574c6e5b6df682c21ccc73c87abfa9a789a84023d328"), looks := false }, kinds := [], alts := [], laidByText := true, laidKinds := [.data, .data, .data, .data, .pinned], laidTests := true, laidLooks := .later }
def CheatBackCardSaid : Prop := Claim7.holds Tryd.pinned (.plain (OpenSpec.ofChange cheatBackSpec)) cheatBackCard

/-- THE SECOND FORM's CARD OF 'baizelaw55.CheatChecks'. -/
def cheatChecksUptoCard : Claim7 := { stood := { row := cheatChecksUptoRow, standIns := [], harness := (true, "43fd1969fba4e7b7d1eb574c6e5b6df682c21ccc73c87abfa9a789a84023d328"), looks := false }, kinds := [], alts := [], laidByText := true, laidKinds := [.data, .pinned], laidTests := true, laidLooks := .later }
def CheatChecksUptoCardSaid : Prop := Claim7.holds Tryd.pinned (.plain (OpenSpec.upto cheatChecksSpec)) cheatChecksUptoCard

/-- THE SECOND FORM's CARD OF 'baizelaw55.CheatPicks'. -/
def cheatPicksUptoCard : Claim7 := { stood := { row := cheatPicksUptoRow, standIns := [], harness := (true, "43fd1969fba4e7b7d1eb574c6e5b6df682c21ccc73c87abfa9a789a84023d328"), looks := false }, kinds := [], alts := [], laidByText := true, laidKinds := [.data, .pinned], laidTests := true, laidLooks := .later }
def CheatPicksUptoCardSaid : Prop := Claim7.holds Tryd.pinned (.plain (OpenSpec.upto cheatPicksSpec)) cheatPicksUptoCard

/-- THE SECOND FORM's CARD OF 'baizelaw55.CheatDraws'. -/
def cheatDrawsUptoCard : Claim7 := { stood := { row := cheatDrawsUptoRow, standIns := [], harness := (true, "43fd1969fba4e7b7d1eb574c6e5b6df682c21ccc73c87abfa9a789a84023d328"), looks := false }, kinds := [], alts := [], laidByText := true, laidKinds := [.data, .pinned], laidTests := true, laidLooks := .later }
def CheatDrawsUptoCardSaid : Prop := Claim7.holds Tryd.pinned (.plain (OpenSpec.upto cheatDrawsSpec)) cheatDrawsUptoCard

/-- THE SECOND FORM's CARD OF 'baizelaw55.CheatMay'. -/
def cheatMayUptoCard : Claim7 := { stood := { row := cheatMayUptoRow, standIns := [], harness := (true, "43fd1969fba4e7b7d1eb574c6e5b6df682c21ccc73c87abfa9a789a84023d328"), looks := false }, kinds := [], alts := [], laidByText := true, laidKinds := [.data, .pinned], laidTests := true, laidLooks := .later }
def CheatMayUptoCardSaid : Prop := Claim7.holds Tryd.pinned (.plain (OpenSpec.upto cheatMaySpec)) cheatMayUptoCard

/-- THE SECOND FORM's CARD OF 'baizelaw55.CheatWhole'. -/
def cheatWholeUptoCard : Claim7 := { stood := { row := cheatWholeUptoRow, standIns := [], harness := (true, "43fd1969fba4e7b7d1eb574c6e5b6df682c21ccc73c87abfa9a789a84023d328"), looks := false }, kinds := [], alts := [], laidByText := true, laidKinds := [.data, .pinned], laidTests := true, laidLooks := .later }
def CheatWholeUptoCardSaid : Prop := Claim7.holds Tryd.pinned (.plain (OpenSpec.upto cheatWholeSpec)) cheatWholeUptoCard

/-- THE SECOND FORM's CARD OF 'baizelaw55.CheatPrints'. -/
def cheatPrintsUptoCard : Claim7 := { stood := { row := cheatPrintsUptoRow, standIns := [], harness := (true, "43fd1969fba4e7b7d1eb574c6e5b6df682c21ccc73c87abfa9a789a84023d328"), looks := false }, kinds := [], alts := [], laidByText := true, laidKinds := [.data, .data, .data, .data, .pinned], laidTests := true, laidLooks := .later }
def CheatPrintsUptoCardSaid : Prop := Claim7.holds Tryd.pinned (.plain (OpenSpec.upto cheatPrintsSpec)) cheatPrintsUptoCard

/-- THE SECOND FORM's CARD OF 'baizelaw55.CheatBack'. -/
def cheatBackUptoCard : Claim7 := { stood := { row := cheatBackUptoRow, standIns := [], harness := (true, "43fd1969fba4e7b7d1eb574c6e5b6df682c21ccc73c87abfa9a789a84023d328"), looks := false }, kinds := [], alts := [], laidByText := true, laidKinds := [.data, .data, .data, .data, .pinned], laidTests := true, laidLooks := .later }
def CheatBackUptoCardSaid : Prop := Claim7.holds Tryd.pinned (.plain (OpenSpec.upto cheatBackSpec)) cheatBackUptoCard
end Rows
end Go.Proofs.YtigolkdclacikaaDoor
