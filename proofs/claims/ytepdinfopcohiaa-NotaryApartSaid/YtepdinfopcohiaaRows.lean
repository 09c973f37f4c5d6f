/-
  No cell of these rows narrows 'for every input' (looked for: loops, veiled, ifaces, maps, wideKeys, modest, calm, conditions, laid).
  DERIVED. THE GIVEN ROWS OF THIS SEAT. 7 by the template 'for every input the law returns true; each argument reads behind the call as it read before'; 0 by the template 'total and deterministic' (their statements: YtepdinfopcohiaaTotals.lean).
  GIVEN WITH THE SEED: the statements are not yours to turn. If you find one false, say at which input.
  Laid BY PROGRAM, IN A SANDBOX (cutbox-rows.mjs): the forced cells as the released guide's own fill.sh prints them over the translation d26494b48748c5a1… (all of the seat's roots in one cut). By AI agents, Wed Nov 11 2026. No macro, syntax, notation, axiom, sorry.
-/
import Derived.Test.YtepdinfopcohiaaChecked
import GoSem.Claim
import GoSem.ClaimJoined
import GoSem.ClaimMapViews
import Derived.JoinedTies
import Derived.KernelRfl
namespace Go.Proofs.Ytepdinfopcohiaa
/- THE CELL 'sum', in the pinned program and in every row, IS THE sha256 OF THE DUMP (.gsa) THAT YtepdinfopcohiaaProg.lean LOADS. Nothing in Lean hashes anything: it is a label: what it is worth is what the hold of that sum in a sandbox is worth. -/
noncomputable def Try.pinned : Pinned := { name := "ytepdinfopcohiaa", sum := "d26494b48748c5a167024df98d39469eecb07daa1cede7107529d8a2c4603f13", checked := Try.checked }
namespace Rows
def none {H : Type} : Left H := { results := [], args := [] }

/-- 'baizelaw07.NotaryHolds': WHATEVER THE INPUT: true; the input reads as it did. -/
def notaryHoldsSpec : ChangeSpec := { name := "notaryHolds", fn := fun _ => fun
  | [d] => { results := [.lit (.bool true)], args := [d] }
  | _ => none }
def notaryHoldsRow : OpenClaim := { program := "ytepdinfopcohiaa", sum := "d26494b48748c5a167024df98d39469eecb07daa1cede7107529d8a2c4603f13", func := "baize/baizelaw07.NotaryHolds", spec := "notaryHolds", unfollowed := true, recurses := true, plainKeys := false, apart := false }
def NotaryHoldsSaid : Prop := notaryHoldsRow.holds Try.pinned (OpenSpec.ofChange notaryHoldsSpec)

/-- ITS FALSE NEIGHBOUR: 'it returns false'. Refute it at one input. -/
def notaryHoldsWrong : ChangeSpec := { name := "notaryHolds", fn := fun _ => fun
  | [d] => { results := [.lit (.bool false)], args := [d] }
  | _ => none }
def NotaryHoldsWrongFalsely : Prop := notaryHoldsRow.holds Try.pinned (OpenSpec.ofChange notaryHoldsWrong)

/-- 'baizelaw07.NotaryAlike': WHATEVER THE INPUT: true; the input reads as it did. -/
def notaryAlikeSpec : ChangeSpec := { name := "notaryAlike", fn := fun _ => fun
  | [d1, d2, d3] => { results := [.lit (.bool true)], args := [d1, d2, d3] }
  | _ => none }
def notaryAlikeRow : OpenClaim := { program := "ytepdinfopcohiaa", sum := "d26494b48748c5a167024df98d39469eecb07daa1cede7107529d8a2c4603f13", func := "baize/baizelaw07.NotaryAlike", spec := "notaryAlike", unfollowed := true, recurses := true, plainKeys := false, apart := false }
def NotaryAlikeSaid : Prop := notaryAlikeRow.holds Try.pinned (OpenSpec.ofChange notaryAlikeSpec)

/-- ITS FALSE NEIGHBOUR: 'it returns false'. Refute it at one input. -/
def notaryAlikeWrong : ChangeSpec := { name := "notaryAlike", fn := fun _ => fun
  | [d1, d2, d3] => { results := [.lit (.bool false)], args := [d1, d2, d3] }
  | _ => none }
def NotaryAlikeWrongFalsely : Prop := notaryAlikeRow.holds Try.pinned (OpenSpec.ofChange notaryAlikeWrong)

/-- 'baizelaw07.NotaryBooks': WHATEVER THE INPUT: true; the input reads as it did. -/
def notaryBooksSpec : ChangeSpec := { name := "notaryBooks", fn := fun _ => fun
  | [d1, d2, d3] => { results := [.lit (.bool true)], args := [d1, d2, d3] }
  | _ => none }
def notaryBooksRow : OpenClaim := { program := "ytepdinfopcohiaa", sum := "d26494b48748c5a167024df98d39469eecb07daa1cede7107529d8a2c4603f13", func := "baize/baizelaw07.NotaryBooks", spec := "notaryBooks", unfollowed := true, recurses := true, plainKeys := false, apart := false }
def NotaryBooksSaid : Prop := notaryBooksRow.holds Try.pinned (OpenSpec.ofChange notaryBooksSpec)

/-- ITS FALSE NEIGHBOUR: 'it returns false'. Refute it at one input. -/
def notaryBooksWrong : ChangeSpec := { name := "notaryBooks", fn := fun _ => fun
  | [d1, d2, d3] => { results := [.lit (.bool false)], args := [d1, d2, d3] }
  | _ => none }
def NotaryBooksWrongFalsely : Prop := notaryBooksRow.holds Try.pinned (OpenSpec.ofChange notaryBooksWrong)

/-- 'baizelaw07.NotaryApart': WHATEVER THE INPUT: true; the input reads as it did. -/
def notaryApartSpec : ChangeSpec := { name := "notaryApart", fn := fun _ => fun
  | [d1, d2] => { results := [.lit (.bool true)], args := [d1, d2] }
  | _ => none }
def notaryApartRow : OpenClaim := { program := "ytepdinfopcohiaa", sum := "d26494b48748c5a167024df98d39469eecb07daa1cede7107529d8a2c4603f13", func := "baize/baizelaw07.NotaryApart", spec := "notaryApart", inPlace := ["maps.clone"], unfollowed := true, recurses := true, plainKeys := false, apart := false }
def NotaryApartSaid : Prop := notaryApartRow.holds Try.pinned (OpenSpec.ofChange notaryApartSpec)

/-- ITS FALSE NEIGHBOUR: 'it returns false'. Refute it at one input. -/
def notaryApartWrong : ChangeSpec := { name := "notaryApart", fn := fun _ => fun
  | [d1, d2] => { results := [.lit (.bool false)], args := [d1, d2] }
  | _ => none }
def NotaryApartWrongFalsely : Prop := notaryApartRow.holds Try.pinned (OpenSpec.ofChange notaryApartWrong)

/-- 'baizelaw07.NotaryParties': WHATEVER THE INPUT: true; the input reads as it did. -/
def notaryPartiesSpec : ChangeSpec := { name := "notaryParties", fn := fun _ => fun
  | [d1, d2] => { results := [.lit (.bool true)], args := [d1, d2] }
  | _ => none }
def notaryPartiesRow : OpenClaim := { program := "ytepdinfopcohiaa", sum := "d26494b48748c5a167024df98d39469eecb07daa1cede7107529d8a2c4603f13", func := "baize/baizelaw07.NotaryParties", spec := "notaryParties", unfollowed := true, recurses := true, plainKeys := false, apart := false }
def NotaryPartiesSaid : Prop := notaryPartiesRow.holds Try.pinned (OpenSpec.ofChange notaryPartiesSpec)

/-- ITS FALSE NEIGHBOUR: 'it returns false'. Refute it at one input. -/
def notaryPartiesWrong : ChangeSpec := { name := "notaryParties", fn := fun _ => fun
  | [d1, d2] => { results := [.lit (.bool false)], args := [d1, d2] }
  | _ => none }
def NotaryPartiesWrongFalsely : Prop := notaryPartiesRow.holds Try.pinned (OpenSpec.ofChange notaryPartiesWrong)

/-- 'baizelaw07.NotaryGathers': WHATEVER THE INPUT: true; the input reads as it did. -/
def notaryGathersSpec : ChangeSpec := { name := "notaryGathers", fn := fun _ => fun
  | [d1, d2, d3] => { results := [.lit (.bool true)], args := [d1, d2, d3] }
  | _ => none }
def notaryGathersRow : OpenClaim := { program := "ytepdinfopcohiaa", sum := "d26494b48748c5a167024df98d39469eecb07daa1cede7107529d8a2c4603f13", func := "baize/baizelaw07.NotaryGathers", spec := "notaryGathers", unfollowed := true, recurses := true, plainKeys := false, apart := false }
def NotaryGathersSaid : Prop := notaryGathersRow.holds Try.pinned (OpenSpec.ofChange notaryGathersSpec)

/-- ITS FALSE NEIGHBOUR: 'it returns false'. Refute it at one input. -/
def notaryGathersWrong : ChangeSpec := { name := "notaryGathers", fn := fun _ => fun
  | [d1, d2, d3] => { results := [.lit (.bool false)], args := [d1, d2, d3] }
  | _ => none }
def NotaryGathersWrongFalsely : Prop := notaryGathersRow.holds Try.pinned (OpenSpec.ofChange notaryGathersWrong)

/-- 'baizelaw07.NotaryNil': WHATEVER THE INPUT: true; the input reads as it did. -/
def notaryNilSpec : ChangeSpec := { name := "notaryNil", fn := fun _ => fun
  | [d1, d2] => { results := [.lit (.bool true)], args := [d1, d2] }
  | _ => none }
def notaryNilRow : OpenClaim := { program := "ytepdinfopcohiaa", sum := "d26494b48748c5a167024df98d39469eecb07daa1cede7107529d8a2c4603f13", func := "baize/baizelaw07.NotaryNil", spec := "notaryNil", inPlace := ["maps.clone"], unfollowed := true, recurses := true, plainKeys := false, apart := false }
def NotaryNilSaid : Prop := notaryNilRow.holds Try.pinned (OpenSpec.ofChange notaryNilSpec)

/-- ITS FALSE NEIGHBOUR: 'it returns false'. Refute it at one input. -/
def notaryNilWrong : ChangeSpec := { name := "notaryNil", fn := fun _ => fun
  | [d1, d2] => { results := [.lit (.bool false)], args := [d1, d2] }
  | _ => none }
def NotaryNilWrongFalsely : Prop := notaryNilRow.holds Try.pinned (OpenSpec.ofChange notaryNilWrong)

/- THE SECOND FORM. 'bulk': how many values and letters a reading holds, each counted each time it is reached (what is shared counts as often as it is met; a slice's spare places count too). A statement '..UptoSaid' is the law's where the arguments, and the package variables that the reading takes, are together of bulk at most 1048576: NARROWER than '..Said'. Prove '..Said' where nothing that the law and all that it calls make is longer than what came in: it says more and counts as full. Else prove '..UptoSaid'. A law counts once. -/
mutual
def uptoBulk {H : Type} : DataW H → Nat
  | .lit (.string bytes) => bytes.length + 1
  | .lit _ => 1
  | .nil => 1
  | .ptr d => uptoBulk d + 1
  | .slice elems spare => uptoBulkAll elems + uptoBulkAll spare + 1
  | .agg parts => uptoBulkAll parts + 1
  | .iface _ d => uptoBulk d + 1
  | .map entries => uptoBulkEntries entries + 1
  | .held _ => 1
def uptoBulkAll {H : Type} : List (DataW H) → Nat
  | [] => 0
  | d :: r => uptoBulk d + uptoBulkAll r
def uptoBulkEntries {H : Type} : List (Lit × DataW H) → Nat
  | [] => 0
  | x :: r => uptoBulkEntry x + uptoBulkEntries r
def uptoBulkEntry {H : Type} : Lit × DataW H → Nat
  | (.string bytes, d) => bytes.length + uptoBulk d + 1
  | (_, d) => uptoBulk d + 1
 end
def uptoSmall : (H : Type) → List (DataW H) → Bool := fun _ ds => decide (uptoBulkAll ds ≤ 1048576)
def OpenSpec.upto (s : _root_.Go.ChangeSpec) : _root_.Go.OpenSpec := { _root_.Go.OpenSpec.ofChange s with cond := some uptoSmall }

/-- 'baizelaw07.NotaryHolds', WHERE WHAT IT READS IS OF BULK AT MOST 1048576: true; the input reads as it did. -/
def notaryHoldsUptoRow : OpenClaim := { program := "ytepdinfopcohiaa", sum := "d26494b48748c5a167024df98d39469eecb07daa1cede7107529d8a2c4603f13", func := "baize/baizelaw07.NotaryHolds", spec := "notaryHolds", unfollowed := true, recurses := true, plainKeys := false, apart := false, narrowed := true }
def NotaryHoldsUptoSaid : Prop := notaryHoldsUptoRow.holds Try.pinned (OpenSpec.upto notaryHoldsSpec)

/-- 'baizelaw07.NotaryAlike', WHERE WHAT IT READS IS OF BULK AT MOST 1048576: true; the input reads as it did. -/
def notaryAlikeUptoRow : OpenClaim := { program := "ytepdinfopcohiaa", sum := "d26494b48748c5a167024df98d39469eecb07daa1cede7107529d8a2c4603f13", func := "baize/baizelaw07.NotaryAlike", spec := "notaryAlike", unfollowed := true, recurses := true, plainKeys := false, apart := false, narrowed := true }
def NotaryAlikeUptoSaid : Prop := notaryAlikeUptoRow.holds Try.pinned (OpenSpec.upto notaryAlikeSpec)

/-- 'baizelaw07.NotaryBooks', WHERE WHAT IT READS IS OF BULK AT MOST 1048576: true; the input reads as it did. -/
def notaryBooksUptoRow : OpenClaim := { program := "ytepdinfopcohiaa", sum := "d26494b48748c5a167024df98d39469eecb07daa1cede7107529d8a2c4603f13", func := "baize/baizelaw07.NotaryBooks", spec := "notaryBooks", unfollowed := true, recurses := true, plainKeys := false, apart := false, narrowed := true }
def NotaryBooksUptoSaid : Prop := notaryBooksUptoRow.holds Try.pinned (OpenSpec.upto notaryBooksSpec)

/-- 'baizelaw07.NotaryApart', WHERE WHAT IT READS IS OF BULK AT MOST 1048576: true; the input reads as it did. -/
def notaryApartUptoRow : OpenClaim := { program := "ytepdinfopcohiaa", sum := "d26494b48748c5a167024df98d39469eecb07daa1cede7107529d8a2c4603f13", func := "baize/baizelaw07.NotaryApart", spec := "notaryApart", inPlace := ["maps.clone"], unfollowed := true, recurses := true, plainKeys := false, apart := false, narrowed := true }
def NotaryApartUptoSaid : Prop := notaryApartUptoRow.holds Try.pinned (OpenSpec.upto notaryApartSpec)

/-- 'baizelaw07.NotaryParties', WHERE WHAT IT READS IS OF BULK AT MOST 1048576: true; the input reads as it did. -/
def notaryPartiesUptoRow : OpenClaim := { program := "ytepdinfopcohiaa", sum := "d26494b48748c5a167024df98d39469eecb07daa1cede7107529d8a2c4603f13", func := "baize/baizelaw07.NotaryParties", spec := "notaryParties", unfollowed := true, recurses := true, plainKeys := false, apart := false, narrowed := true }
def NotaryPartiesUptoSaid : Prop := notaryPartiesUptoRow.holds Try.pinned (OpenSpec.upto notaryPartiesSpec)

/-- 'baizelaw07.NotaryGathers', WHERE WHAT IT READS IS OF BULK AT MOST 1048576: true; the input reads as it did. -/
def notaryGathersUptoRow : OpenClaim := { program := "ytepdinfopcohiaa", sum := "d26494b48748c5a167024df98d39469eecb07daa1cede7107529d8a2c4603f13", func := "baize/baizelaw07.NotaryGathers", spec := "notaryGathers", unfollowed := true, recurses := true, plainKeys := false, apart := false, narrowed := true }
def NotaryGathersUptoSaid : Prop := notaryGathersUptoRow.holds Try.pinned (OpenSpec.upto notaryGathersSpec)

/-- 'baizelaw07.NotaryNil', WHERE WHAT IT READS IS OF BULK AT MOST 1048576: true; the input reads as it did. -/
def notaryNilUptoRow : OpenClaim := { program := "ytepdinfopcohiaa", sum := "d26494b48748c5a167024df98d39469eecb07daa1cede7107529d8a2c4603f13", func := "baize/baizelaw07.NotaryNil", spec := "notaryNil", inPlace := ["maps.clone"], unfollowed := true, recurses := true, plainKeys := false, apart := false, narrowed := true }
def NotaryNilUptoSaid : Prop := notaryNilUptoRow.holds Try.pinned (OpenSpec.upto notaryNilSpec)

end Rows
end Go.Proofs.Ytepdinfopcohiaa
