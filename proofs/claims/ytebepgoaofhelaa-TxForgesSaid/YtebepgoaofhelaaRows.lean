/-
  No cell of these rows narrows 'for every input' (looked for: loops, veiled, ifaces, maps, wideKeys, modest, calm, conditions, laid).
  DERIVED. THE GIVEN ROWS OF THIS SEAT. 7 by the template 'for every input the law returns true; each argument reads behind the call as it read before'; 0 by the template 'total and deterministic' (their statements: YtebepgoaofhelaaTotals.lean).
  GIVEN WITH THE SEED: the statements are not yours to turn. If you find one false, say at which input.
  Laid BY PROGRAM, IN A SANDBOX (cutbox-rows.mjs): the forced cells as the released guide's own fill.sh prints them over the translation 13ff77c5244e36c7… (all of the seat's roots in one cut). By AI agents, Wed Nov 11 2026. No macro, syntax, notation, axiom, sorry.
-/
import Derived.Test.YtebepgoaofhelaaChecked
import GoSem.Claim
import GoSem.ClaimJoined
import GoSem.ClaimMapViews
import Derived.JoinedTies
import Derived.KernelRfl
namespace Go.Proofs.Ytebepgoaofhelaa
/- THE CELL 'sum', in the pinned program and in every row, IS THE sha256 OF THE DUMP (.gsa) THAT YtebepgoaofhelaaProg.lean LOADS. Nothing in Lean hashes anything: it is a label: what it is worth is what the hold of that sum in a sandbox is worth. -/
noncomputable def Try.pinned : Pinned := { name := "ytebepgoaofhelaa", sum := "13ff77c5244e36c78ba178dc779340b8a8e9d987349d773323ea1aab1e0923f7", checked := Try.checked }
namespace Rows
def none {H : Type} : Left H := { results := [], args := [] }

/-- 'baizelaw25.TxPays': WHATEVER THE INPUT: true; the input reads as it did. -/
def txPaysSpec : ChangeSpec := { name := "txPays", fn := fun _ => fun
  | [d1, d2, d3] => { results := [.lit (.bool true)], args := [d1, d2, d3] }
  | _ => none }
def txPaysRow : OpenClaim := { program := "ytebepgoaofhelaa", sum := "13ff77c5244e36c78ba178dc779340b8a8e9d987349d773323ea1aab1e0923f7", func := "baize/baizelaw25.TxPays", spec := "txPays", unfollowed := true, recurses := true, plainKeys := false, apart := false }
def TxPaysSaid : Prop := txPaysRow.holds Try.pinned (OpenSpec.ofChange txPaysSpec)

/-- ITS FALSE NEIGHBOUR: 'it returns false'. Refute it at one input. -/
def txPaysWrong : ChangeSpec := { name := "txPays", fn := fun _ => fun
  | [d1, d2, d3] => { results := [.lit (.bool false)], args := [d1, d2, d3] }
  | _ => none }
def TxPaysWrongFalsely : Prop := txPaysRow.holds Try.pinned (OpenSpec.ofChange txPaysWrong)

/-- 'baizelaw25.TxBounds': WHATEVER THE INPUT: true; the input reads as it did. -/
def txBoundsSpec : ChangeSpec := { name := "txBounds", fn := fun _ => fun
  | [d1, d2] => { results := [.lit (.bool true)], args := [d1, d2] }
  | _ => none }
def txBoundsRow : OpenClaim := { program := "ytebepgoaofhelaa", sum := "13ff77c5244e36c78ba178dc779340b8a8e9d987349d773323ea1aab1e0923f7", func := "baize/baizelaw25.TxBounds", spec := "txBounds", unfollowed := true, recurses := true, plainKeys := false, apart := false }
def TxBoundsSaid : Prop := txBoundsRow.holds Try.pinned (OpenSpec.ofChange txBoundsSpec)

/-- ITS FALSE NEIGHBOUR: 'it returns false'. Refute it at one input. -/
def txBoundsWrong : ChangeSpec := { name := "txBounds", fn := fun _ => fun
  | [d1, d2] => { results := [.lit (.bool false)], args := [d1, d2] }
  | _ => none }
def TxBoundsWrongFalsely : Prop := txBoundsRow.holds Try.pinned (OpenSpec.ofChange txBoundsWrong)

/-- 'baizelaw25.TxSame': WHATEVER THE INPUT: true; the input reads as it did. -/
def txSameSpec : ChangeSpec := { name := "txSame", fn := fun _ => fun
  | [d1, d2, d3] => { results := [.lit (.bool true)], args := [d1, d2, d3] }
  | _ => none }
def txSameRow : OpenClaim := { program := "ytebepgoaofhelaa", sum := "13ff77c5244e36c78ba178dc779340b8a8e9d987349d773323ea1aab1e0923f7", func := "baize/baizelaw25.TxSame", spec := "txSame", unfollowed := true, recurses := true, plainKeys := false, apart := false }
def TxSameSaid : Prop := txSameRow.holds Try.pinned (OpenSpec.ofChange txSameSpec)

/-- ITS FALSE NEIGHBOUR: 'it returns false'. Refute it at one input. -/
def txSameWrong : ChangeSpec := { name := "txSame", fn := fun _ => fun
  | [d1, d2, d3] => { results := [.lit (.bool false)], args := [d1, d2, d3] }
  | _ => none }
def TxSameWrongFalsely : Prop := txSameRow.holds Try.pinned (OpenSpec.ofChange txSameWrong)

/-- 'baizelaw25.TxDecodes': WHATEVER THE INPUT: true; the input reads as it did. -/
def txDecodesSpec : ChangeSpec := { name := "txDecodes", fn := fun _ => fun
  | [d] => { results := [.lit (.bool true)], args := [d] }
  | _ => none }
def txDecodesRow : OpenClaim := { program := "ytebepgoaofhelaa", sum := "13ff77c5244e36c78ba178dc779340b8a8e9d987349d773323ea1aab1e0923f7", func := "baize/baizelaw25.TxDecodes", spec := "txDecodes", unfollowed := true, recurses := true, plainKeys := false, apart := false }
def TxDecodesSaid : Prop := txDecodesRow.holds Try.pinned (OpenSpec.ofChange txDecodesSpec)

/-- ITS FALSE NEIGHBOUR: 'it returns false'. Refute it at one input. -/
def txDecodesWrong : ChangeSpec := { name := "txDecodes", fn := fun _ => fun
  | [d] => { results := [.lit (.bool false)], args := [d] }
  | _ => none }
def TxDecodesWrongFalsely : Prop := txDecodesRow.holds Try.pinned (OpenSpec.ofChange txDecodesWrong)

/-- 'baizelaw25.TxBytes': WHATEVER THE INPUT: true; the input reads as it did. -/
def txBytesSpec : ChangeSpec := { name := "txBytes", fn := fun _ => fun
  | [d] => { results := [.lit (.bool true)], args := [d] }
  | _ => none }
def txBytesRow : OpenClaim := { program := "ytebepgoaofhelaa", sum := "13ff77c5244e36c78ba178dc779340b8a8e9d987349d773323ea1aab1e0923f7", func := "baize/baizelaw25.TxBytes", spec := "txBytes", unfollowed := true, recurses := true, plainKeys := false, apart := false }
def TxBytesSaid : Prop := txBytesRow.holds Try.pinned (OpenSpec.ofChange txBytesSpec)

/-- ITS FALSE NEIGHBOUR: 'it returns false'. Refute it at one input. -/
def txBytesWrong : ChangeSpec := { name := "txBytes", fn := fun _ => fun
  | [d] => { results := [.lit (.bool false)], args := [d] }
  | _ => none }
def TxBytesWrongFalsely : Prop := txBytesRow.holds Try.pinned (OpenSpec.ofChange txBytesWrong)

/-- 'baizelaw25.TxForges': WHATEVER THE INPUT: true; the input reads as it did. -/
def txForgesSpec : ChangeSpec := { name := "txForges", fn := fun _ => fun
  | [d1, d2] => { results := [.lit (.bool true)], args := [d1, d2] }
  | _ => none }
def txForgesRow : OpenClaim := { program := "ytebepgoaofhelaa", sum := "13ff77c5244e36c78ba178dc779340b8a8e9d987349d773323ea1aab1e0923f7", func := "baize/baizelaw25.TxForges", spec := "txForges", unfollowed := true, recurses := true, plainKeys := false, apart := false }
def TxForgesSaid : Prop := txForgesRow.holds Try.pinned (OpenSpec.ofChange txForgesSpec)

/-- ITS FALSE NEIGHBOUR: 'it returns false'. Refute it at one input. -/
def txForgesWrong : ChangeSpec := { name := "txForges", fn := fun _ => fun
  | [d1, d2] => { results := [.lit (.bool false)], args := [d1, d2] }
  | _ => none }
def TxForgesWrongFalsely : Prop := txForgesRow.holds Try.pinned (OpenSpec.ofChange txForgesWrong)

/-- 'baizelaw25.TxSigns': WHATEVER THE INPUT: true; the input reads as it did. -/
def txSignsSpec : ChangeSpec := { name := "txSigns", fn := fun _ => fun
  | [d1, d2] => { results := [.lit (.bool true)], args := [d1, d2] }
  | _ => none }
def txSignsRow : OpenClaim := { program := "ytebepgoaofhelaa", sum := "13ff77c5244e36c78ba178dc779340b8a8e9d987349d773323ea1aab1e0923f7", func := "baize/baizelaw25.TxSigns", spec := "txSigns", unfollowed := true, recurses := true, plainKeys := false, apart := false }
def TxSignsSaid : Prop := txSignsRow.holds Try.pinned (OpenSpec.ofChange txSignsSpec)

/-- ITS FALSE NEIGHBOUR: 'it returns false'. Refute it at one input. -/
def txSignsWrong : ChangeSpec := { name := "txSigns", fn := fun _ => fun
  | [d1, d2] => { results := [.lit (.bool false)], args := [d1, d2] }
  | _ => none }
def TxSignsWrongFalsely : Prop := txSignsRow.holds Try.pinned (OpenSpec.ofChange txSignsWrong)

/- THE SECOND FORM. 'bulk': how many values and letters a reading holds, each counted each time it is reached (what is shared counts as often as it is met; a slice's spare places count too). A statement '..UptoSaid' is the law's where the arguments, and the package variables that the reading takes, are together of bulk at most 1048576: NARROWER than '..Said'. Prove '..Said' where nothing that the law and all that it calls make is longer than what came in: it says more and counts as full. Else prove '..UptoSaid'. A law counts once. -/
mutual
def uptoBulk {H : Type} : DataW H → Nat
  | .lit (.string bytes) => bytes.length + 1
  | .lit _ => 1
  | .nil => 1
  | .ptr d => uptoBulk d + 1
  | .slice elems spare => uptoBulkAll elems + uptoBulkAll spare + 1
  | .agg parts => uptoBulkAll parts + 1
  | .iface _ d => uptoBulk d + 1
  | .map entries => uptoBulkEntries entries + 1
  | .held _ => 1
def uptoBulkAll {H : Type} : List (DataW H) → Nat
  | [] => 0
  | d :: r => uptoBulk d + uptoBulkAll r
def uptoBulkEntries {H : Type} : List (Lit × DataW H) → Nat
  | [] => 0
  | x :: r => uptoBulkEntry x + uptoBulkEntries r
def uptoBulkEntry {H : Type} : Lit × DataW H → Nat
  | (.string bytes, d) => bytes.length + uptoBulk d + 1
  | (_, d) => uptoBulk d + 1
 end
def uptoSmall : (H : Type) → List (DataW H) → Bool := fun _ ds => decide (uptoBulkAll ds ≤ 1048576)
def OpenSpec.upto (s : _root_.Go.ChangeSpec) : _root_.Go.OpenSpec := { _root_.Go.OpenSpec.ofChange s with cond := some uptoSmall }

/-- 'baizelaw25.TxPays', WHERE WHAT IT READS IS OF BULK AT MOST 1048576: true; the input reads as it did. -/
def txPaysUptoRow : OpenClaim := { program := "ytebepgoaofhelaa", sum := "13ff77c5244e36c78ba178dc779340b8a8e9d987349d773323ea1aab1e0923f7", func := "baize/baizelaw25.TxPays", spec := "txPays", unfollowed := true, recurses := true, plainKeys := false, apart := false, narrowed := true }
def TxPaysUptoSaid : Prop := txPaysUptoRow.holds Try.pinned (OpenSpec.upto txPaysSpec)

/-- 'baizelaw25.TxBounds', WHERE WHAT IT READS IS OF BULK AT MOST 1048576: true; the input reads as it did. -/
def txBoundsUptoRow : OpenClaim := { program := "ytebepgoaofhelaa", sum := "13ff77c5244e36c78ba178dc779340b8a8e9d987349d773323ea1aab1e0923f7", func := "baize/baizelaw25.TxBounds", spec := "txBounds", unfollowed := true, recurses := true, plainKeys := false, apart := false, narrowed := true }
def TxBoundsUptoSaid : Prop := txBoundsUptoRow.holds Try.pinned (OpenSpec.upto txBoundsSpec)

/-- 'baizelaw25.TxSame', WHERE WHAT IT READS IS OF BULK AT MOST 1048576: true; the input reads as it did. -/
def txSameUptoRow : OpenClaim := { program := "ytebepgoaofhelaa", sum := "13ff77c5244e36c78ba178dc779340b8a8e9d987349d773323ea1aab1e0923f7", func := "baize/baizelaw25.TxSame", spec := "txSame", unfollowed := true, recurses := true, plainKeys := false, apart := false, narrowed := true }
def TxSameUptoSaid : Prop := txSameUptoRow.holds Try.pinned (OpenSpec.upto txSameSpec)

/-- 'baizelaw25.TxDecodes', WHERE WHAT IT READS IS OF BULK AT MOST 1048576: true; the input reads as it did. -/
def txDecodesUptoRow : OpenClaim := { program := "ytebepgoaofhelaa", sum := "13ff77c5244e36c78ba178dc779340b8a8e9d987349d773323ea1aab1e0923f7", func := "baize/baizelaw25.TxDecodes", spec := "txDecodes", unfollowed := true, recurses := true, plainKeys := false, apart := false, narrowed := true }
def TxDecodesUptoSaid : Prop := txDecodesUptoRow.holds Try.pinned (OpenSpec.upto txDecodesSpec)

/-- 'baizelaw25.TxBytes', WHERE WHAT IT READS IS OF BULK AT MOST 1048576: true; the input reads as it did. -/
def txBytesUptoRow : OpenClaim := { program := "ytebepgoaofhelaa", sum := "13ff77c5244e36c78ba178dc779340b8a8e9d987349d773323ea1aab1e0923f7", func := "baize/baizelaw25.TxBytes", spec := "txBytes", unfollowed := true, recurses := true, plainKeys := false, apart := false, narrowed := true }
def TxBytesUptoSaid : Prop := txBytesUptoRow.holds Try.pinned (OpenSpec.upto txBytesSpec)

/-- 'baizelaw25.TxForges', WHERE WHAT IT READS IS OF BULK AT MOST 1048576: true; the input reads as it did. -/
def txForgesUptoRow : OpenClaim := { program := "ytebepgoaofhelaa", sum := "13ff77c5244e36c78ba178dc779340b8a8e9d987349d773323ea1aab1e0923f7", func := "baize/baizelaw25.TxForges", spec := "txForges", unfollowed := true, recurses := true, plainKeys := false, apart := false, narrowed := true }
def TxForgesUptoSaid : Prop := txForgesUptoRow.holds Try.pinned (OpenSpec.upto txForgesSpec)

/-- 'baizelaw25.TxSigns', WHERE WHAT IT READS IS OF BULK AT MOST 1048576: true; the input reads as it did. -/
def txSignsUptoRow : OpenClaim := { program := "ytebepgoaofhelaa", sum := "13ff77c5244e36c78ba178dc779340b8a8e9d987349d773323ea1aab1e0923f7", func := "baize/baizelaw25.TxSigns", spec := "txSigns", unfollowed := true, recurses := true, plainKeys := false, apart := false, narrowed := true }
def TxSignsUptoSaid : Prop := txSignsUptoRow.holds Try.pinned (OpenSpec.upto txSignsSpec)

end Rows
end Go.Proofs.Ytebepgoaofhelaa
