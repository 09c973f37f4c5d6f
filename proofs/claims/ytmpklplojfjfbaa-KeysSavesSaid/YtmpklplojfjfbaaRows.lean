/-
  No cell of these rows narrows 'for every input' (looked for: loops, veiled, ifaces, maps, wideKeys, modest, calm, conditions, laid).
  DERIVED. THE GIVEN ROWS OF THIS SEAT. 4 by the template 'for every input the law returns true; each argument reads behind the call as it read before'; 0 by the template 'total and deterministic' (their statements: YtmpklplojfjfbaaTotals.lean).
  GIVEN WITH THE SEED: the statements are not yours to turn. If you find one false, say at which input.
  Laid BY PROGRAM, IN A SANDBOX (cutbox-rows.mjs): the forced cells as the released guide's own fill.sh prints them over the translation ffaa149174258083… (all of the seat's roots in one cut). By AI agents, Wed Nov 11 2026. No macro, syntax, notation, axiom, sorry.
-/
import Derived.Test.YtmpklplojfjfbaaChecked
import GoSem.Claim
import GoSem.ClaimJoined
import GoSem.ClaimMapViews
import Derived.JoinedTies
import Derived.KernelRfl
namespace Go.Proofs.Ytmpklplojfjfbaa
/- THE CELL 'sum', in the pinned program and in every row, IS THE sha256 OF THE DUMP (.gsa) THAT YtmpklplojfjfbaaProg.lean LOADS. Nothing in Lean hashes anything: it is a label: what it is worth is what the hold of that sum in a sandbox is worth. -/
noncomputable def Try.pinned : Pinned := { name := "ytmpklplojfjfbaa", sum := "ffaa149174258083dc138d05102f2f269fb5baf74de01aeba5dc32f0b35f883f", checked := Try.checked }
namespace Rows
def none {H : Type} : Left H := { results := [], args := [] }

/-- 'baizelaw06.KeysReserves': WHATEVER THE INPUT: true; the input reads as it did. -/
def keysReservesSpec : ChangeSpec := { name := "keysReserves", fn := fun _ => fun
  | [d1, d2, d3] => { results := [.lit (.bool true)], args := [d1, d2, d3] }
  | _ => none }
def keysReservesRow : OpenClaim := { program := "ytmpklplojfjfbaa", sum := "ffaa149174258083dc138d05102f2f269fb5baf74de01aeba5dc32f0b35f883f", func := "baize/baizelaw06.KeysReserves", spec := "keysReserves", unfollowed := true, recurses := true, plainKeys := false, apart := false }
def KeysReservesSaid : Prop := keysReservesRow.holds Try.pinned (OpenSpec.ofChange keysReservesSpec)

/-- ITS FALSE NEIGHBOUR: 'it returns false'. Refute it at one input. -/
def keysReservesWrong : ChangeSpec := { name := "keysReserves", fn := fun _ => fun
  | [d1, d2, d3] => { results := [.lit (.bool false)], args := [d1, d2, d3] }
  | _ => none }
def KeysReservesWrongFalsely : Prop := keysReservesRow.holds Try.pinned (OpenSpec.ofChange keysReservesWrong)

/-- 'baizelaw06.KeysSaves': WHATEVER THE INPUT: true; the input reads as it did. -/
def keysSavesSpec : ChangeSpec := { name := "keysSaves", fn := fun _ => fun
  | [d1, d2, d3, d4] => { results := [.lit (.bool true)], args := [d1, d2, d3, d4] }
  | _ => none }
def keysSavesRow : OpenClaim := { program := "ytmpklplojfjfbaa", sum := "ffaa149174258083dc138d05102f2f269fb5baf74de01aeba5dc32f0b35f883f", func := "baize/baizelaw06.KeysSaves", spec := "keysSaves", unfollowed := true, recurses := true, plainKeys := false, apart := false }
def KeysSavesSaid : Prop := keysSavesRow.holds Try.pinned (OpenSpec.ofChange keysSavesSpec)

/-- ITS FALSE NEIGHBOUR: 'it returns false'. Refute it at one input. -/
def keysSavesWrong : ChangeSpec := { name := "keysSaves", fn := fun _ => fun
  | [d1, d2, d3, d4] => { results := [.lit (.bool false)], args := [d1, d2, d3, d4] }
  | _ => none }
def KeysSavesWrongFalsely : Prop := keysSavesRow.holds Try.pinned (OpenSpec.ofChange keysSavesWrong)

/-- 'baizelaw06.KeysSame': WHATEVER THE INPUT: true; the input reads as it did. -/
def keysSameSpec : ChangeSpec := { name := "keysSame", fn := fun _ => fun
  | [d1, d2, d3, d4, d5] => { results := [.lit (.bool true)], args := [d1, d2, d3, d4, d5] }
  | _ => none }
def keysSameRow : OpenClaim := { program := "ytmpklplojfjfbaa", sum := "ffaa149174258083dc138d05102f2f269fb5baf74de01aeba5dc32f0b35f883f", func := "baize/baizelaw06.KeysSame", spec := "keysSame", inPlace := ["maps.clone"], unfollowed := true, recurses := true, plainKeys := false, apart := false }
def KeysSameSaid : Prop := keysSameRow.holds Try.pinned (OpenSpec.ofChange keysSameSpec)

/-- ITS FALSE NEIGHBOUR: 'it returns false'. Refute it at one input. -/
def keysSameWrong : ChangeSpec := { name := "keysSame", fn := fun _ => fun
  | [d1, d2, d3, d4, d5] => { results := [.lit (.bool false)], args := [d1, d2, d3, d4, d5] }
  | _ => none }
def KeysSameWrongFalsely : Prop := keysSameRow.holds Try.pinned (OpenSpec.ofChange keysSameWrong)

/-- 'baizelaw06.KeysOnce': WHATEVER THE INPUT: true; the input reads as it did. -/
def keysOnceSpec : ChangeSpec := { name := "keysOnce", fn := fun _ => fun
  | [d1, d2, d3, d4] => { results := [.lit (.bool true)], args := [d1, d2, d3, d4] }
  | _ => none }
def keysOnceRow : OpenClaim := { program := "ytmpklplojfjfbaa", sum := "ffaa149174258083dc138d05102f2f269fb5baf74de01aeba5dc32f0b35f883f", func := "baize/baizelaw06.KeysOnce", spec := "keysOnce", unfollowed := true, recurses := true, plainKeys := false, apart := false }
def KeysOnceSaid : Prop := keysOnceRow.holds Try.pinned (OpenSpec.ofChange keysOnceSpec)

/-- ITS FALSE NEIGHBOUR: 'it returns false'. Refute it at one input. -/
def keysOnceWrong : ChangeSpec := { name := "keysOnce", fn := fun _ => fun
  | [d1, d2, d3, d4] => { results := [.lit (.bool false)], args := [d1, d2, d3, d4] }
  | _ => none }
def KeysOnceWrongFalsely : Prop := keysOnceRow.holds Try.pinned (OpenSpec.ofChange keysOnceWrong)

/- THE SECOND FORM. 'bulk': how many values and letters a reading holds, each counted each time it is reached (what is shared counts as often as it is met; a slice's spare places count too). A statement '..UptoSaid' is the law's where the arguments, and the package variables that the reading takes, are together of bulk at most 1048576: NARROWER than '..Said'. Prove '..Said' where nothing that the law and all that it calls make is longer than what came in: it says more and counts as full. Else prove '..UptoSaid'. A law counts once. -/
mutual
def uptoBulk {H : Type} : DataW H → Nat
  | .lit (.string bytes) => bytes.length + 1
  | .lit _ => 1
  | .nil => 1
  | .ptr d => uptoBulk d + 1
  | .slice elems spare => uptoBulkAll elems + uptoBulkAll spare + 1
  | .agg parts => uptoBulkAll parts + 1
  | .iface _ d => uptoBulk d + 1
  | .map entries => uptoBulkEntries entries + 1
  | .held _ => 1
def uptoBulkAll {H : Type} : List (DataW H) → Nat
  | [] => 0
  | d :: r => uptoBulk d + uptoBulkAll r
def uptoBulkEntries {H : Type} : List (Lit × DataW H) → Nat
  | [] => 0
  | x :: r => uptoBulkEntry x + uptoBulkEntries r
def uptoBulkEntry {H : Type} : Lit × DataW H → Nat
  | (.string bytes, d) => bytes.length + uptoBulk d + 1
  | (_, d) => uptoBulk d + 1
 end
def uptoSmall : (H : Type) → List (DataW H) → Bool := fun _ ds => decide (uptoBulkAll ds ≤ 1048576)
def OpenSpec.upto (s : _root_.Go.ChangeSpec) : _root_.Go.OpenSpec := { _root_.Go.OpenSpec.ofChange s with cond := some uptoSmall }

/-- 'baizelaw06.KeysReserves', WHERE WHAT IT READS IS OF BULK AT MOST 1048576: true; the input reads as it did. -/
def keysReservesUptoRow : OpenClaim := { program := "ytmpklplojfjfbaa", sum := "ffaa149174258083dc138d05102f2f269fb5baf74de01aeba5dc32f0b35f883f", func := "baize/baizelaw06.KeysReserves", spec := "keysReserves", unfollowed := true, recurses := true, plainKeys := false, apart := false, narrowed := true }
def KeysReservesUptoSaid : Prop := keysReservesUptoRow.holds Try.pinned (OpenSpec.upto keysReservesSpec)

/-- 'baizelaw06.KeysSaves', WHERE WHAT IT READS IS OF BULK AT MOST 1048576: true; the input reads as it did. -/
def keysSavesUptoRow : OpenClaim := { program := "ytmpklplojfjfbaa", sum := "ffaa149174258083dc138d05102f2f269fb5baf74de01aeba5dc32f0b35f883f", func := "baize/baizelaw06.KeysSaves", spec := "keysSaves", unfollowed := true, recurses := true, plainKeys := false, apart := false, narrowed := true }
def KeysSavesUptoSaid : Prop := keysSavesUptoRow.holds Try.pinned (OpenSpec.upto keysSavesSpec)

/-- 'baizelaw06.KeysSame', WHERE WHAT IT READS IS OF BULK AT MOST 1048576: true; the input reads as it did. -/
def keysSameUptoRow : OpenClaim := { program := "ytmpklplojfjfbaa", sum := "ffaa149174258083dc138d05102f2f269fb5baf74de01aeba5dc32f0b35f883f", func := "baize/baizelaw06.KeysSame", spec := "keysSame", inPlace := ["maps.clone"], unfollowed := true, recurses := true, plainKeys := false, apart := false, narrowed := true }
def KeysSameUptoSaid : Prop := keysSameUptoRow.holds Try.pinned (OpenSpec.upto keysSameSpec)

/-- 'baizelaw06.KeysOnce', WHERE WHAT IT READS IS OF BULK AT MOST 1048576: true; the input reads as it did. -/
def keysOnceUptoRow : OpenClaim := { program := "ytmpklplojfjfbaa", sum := "ffaa149174258083dc138d05102f2f269fb5baf74de01aeba5dc32f0b35f883f", func := "baize/baizelaw06.KeysOnce", spec := "keysOnce", unfollowed := true, recurses := true, plainKeys := false, apart := false, narrowed := true }
def KeysOnceUptoSaid : Prop := keysOnceUptoRow.holds Try.pinned (OpenSpec.upto keysOnceSpec)

end Rows
end Go.Proofs.Ytmpklplojfjfbaa
