/-
  No cell of these rows narrows 'for every input' (looked for: loops, veiled, ifaces, maps, wideKeys, modest, calm, conditions, laid).
  DERIVED. THE GIVEN ROWS OF THIS SEAT. 8 by the template 'for every input the law returns true; each argument reads behind the call as it read before'; 0 by the template 'total and deterministic' (their statements: YtjiecnoplnaahaaTotals.lean).
  GIVEN WITH THE SEED: the statements are not yours to turn. If you find one false, say at which input.
  Laid BY PROGRAM, IN A SANDBOX (cutbox-rows.mjs): the forced cells as the released guide's own fill.sh prints them over the translation 061cb2a65ffe55e8… (all of the seat's roots in one cut). By AI agents, Wed Nov 11 2026. No macro, syntax, notation, axiom, sorry.
-/
import Derived.Test.YtjiecnoplnaahaaChecked
import GoSem.Claim
import GoSem.ClaimJoined
import GoSem.ClaimMapViews
import Derived.JoinedTies
import Derived.KernelRfl
namespace Go.Proofs.Ytjiecnoplnaahaa
/- THE CELL 'sum', in the pinned program and in every row, IS THE sha256 OF THE DUMP (.gsa) THAT YtjiecnoplnaahaaProg.lean LOADS. Nothing in Lean hashes anything: it is a label: what it is worth is what the hold of that sum in a sandbox is worth. -/
noncomputable def Try.pinned : Pinned := { name := "ytjiecnoplnaahaa", sum := "061cb2a65ffe55e81e6e959de2901fc9c0df61ab745647f1949133a6e588d598", checked := Try.checked }
namespace Rows
def none {H : Type} : Left H := { results := [], args := [] }

/-- 'baizelaw47.PursePays': WHATEVER THE INPUT: true; the input reads as it did. -/
def pursePaysSpec : ChangeSpec := { name := "pursePays", fn := fun _ => fun
  | [d1, d2, d3] => { results := [.lit (.bool true)], args := [d1, d2, d3] }
  | _ => none }
def pursePaysRow : OpenClaim := { program := "ytjiecnoplnaahaa", sum := "061cb2a65ffe55e81e6e959de2901fc9c0df61ab745647f1949133a6e588d598", func := "baize/baizelaw47.PursePays", spec := "pursePays", unfollowed := true, recurses := true, plainKeys := false, apart := false }
def PursePaysSaid : Prop := pursePaysRow.holds Try.pinned (OpenSpec.ofChange pursePaysSpec)

/-- ITS FALSE NEIGHBOUR: 'it returns false'. Refute it at one input. -/
def pursePaysWrong : ChangeSpec := { name := "pursePays", fn := fun _ => fun
  | [d1, d2, d3] => { results := [.lit (.bool false)], args := [d1, d2, d3] }
  | _ => none }
def PursePaysWrongFalsely : Prop := pursePaysRow.holds Try.pinned (OpenSpec.ofChange pursePaysWrong)

/-- 'baizelaw47.PurseActs': WHATEVER THE INPUT: true; the input reads as it did. -/
def purseActsSpec : ChangeSpec := { name := "purseActs", fn := fun _ => fun
  | [d1, d2] => { results := [.lit (.bool true)], args := [d1, d2] }
  | _ => none }
def purseActsRow : OpenClaim := { program := "ytjiecnoplnaahaa", sum := "061cb2a65ffe55e81e6e959de2901fc9c0df61ab745647f1949133a6e588d598", func := "baize/baizelaw47.PurseActs", spec := "purseActs", unfollowed := true, recurses := true, plainKeys := false, apart := false }
def PurseActsSaid : Prop := purseActsRow.holds Try.pinned (OpenSpec.ofChange purseActsSpec)

/-- ITS FALSE NEIGHBOUR: 'it returns false'. Refute it at one input. -/
def purseActsWrong : ChangeSpec := { name := "purseActs", fn := fun _ => fun
  | [d1, d2] => { results := [.lit (.bool false)], args := [d1, d2] }
  | _ => none }
def PurseActsWrongFalsely : Prop := purseActsRow.holds Try.pinned (OpenSpec.ofChange purseActsWrong)

/-- 'baizelaw47.PurseKeeps': WHATEVER THE INPUT: true; the input reads as it did. -/
def purseKeepsSpec : ChangeSpec := { name := "purseKeeps", fn := fun _ => fun
  | [d1, d2] => { results := [.lit (.bool true)], args := [d1, d2] }
  | _ => none }
def purseKeepsRow : OpenClaim := { program := "ytjiecnoplnaahaa", sum := "061cb2a65ffe55e81e6e959de2901fc9c0df61ab745647f1949133a6e588d598", func := "baize/baizelaw47.PurseKeeps", spec := "purseKeeps", unfollowed := true, recurses := true, plainKeys := false, apart := false }
def PurseKeepsSaid : Prop := purseKeepsRow.holds Try.pinned (OpenSpec.ofChange purseKeepsSpec)

/-- ITS FALSE NEIGHBOUR: 'it returns false'. Refute it at one input. -/
def purseKeepsWrong : ChangeSpec := { name := "purseKeeps", fn := fun _ => fun
  | [d1, d2] => { results := [.lit (.bool false)], args := [d1, d2] }
  | _ => none }
def PurseKeepsWrongFalsely : Prop := purseKeepsRow.holds Try.pinned (OpenSpec.ofChange purseKeepsWrong)

/-- 'baizelaw47.PurseBack': WHATEVER THE INPUT: true; the input reads as it did. -/
def purseBackSpec : ChangeSpec := { name := "purseBack", fn := fun _ => fun
  | [d1, d2, d3] => { results := [.lit (.bool true)], args := [d1, d2, d3] }
  | _ => none }
def purseBackRow : OpenClaim := { program := "ytjiecnoplnaahaa", sum := "061cb2a65ffe55e81e6e959de2901fc9c0df61ab745647f1949133a6e588d598", func := "baize/baizelaw47.PurseBack", spec := "purseBack", unfollowed := true, recurses := true, plainKeys := false, apart := false }
def PurseBackSaid : Prop := purseBackRow.holds Try.pinned (OpenSpec.ofChange purseBackSpec)

/-- ITS FALSE NEIGHBOUR: 'it returns false'. Refute it at one input. -/
def purseBackWrong : ChangeSpec := { name := "purseBack", fn := fun _ => fun
  | [d1, d2, d3] => { results := [.lit (.bool false)], args := [d1, d2, d3] }
  | _ => none }
def PurseBackWrongFalsely : Prop := purseBackRow.holds Try.pinned (OpenSpec.ofChange purseBackWrong)

/-- 'baizelaw47.PurseChecks': WHATEVER THE INPUT: true; the input reads as it did. -/
def purseChecksSpec : ChangeSpec := { name := "purseChecks", fn := fun _ => fun
  | [d1, d2, d3] => { results := [.lit (.bool true)], args := [d1, d2, d3] }
  | _ => none }
def purseChecksRow : OpenClaim := { program := "ytjiecnoplnaahaa", sum := "061cb2a65ffe55e81e6e959de2901fc9c0df61ab745647f1949133a6e588d598", func := "baize/baizelaw47.PurseChecks", spec := "purseChecks", unfollowed := true, recurses := true, plainKeys := false, apart := false }
def PurseChecksSaid : Prop := purseChecksRow.holds Try.pinned (OpenSpec.ofChange purseChecksSpec)

/-- ITS FALSE NEIGHBOUR: 'it returns false'. Refute it at one input. -/
def purseChecksWrong : ChangeSpec := { name := "purseChecks", fn := fun _ => fun
  | [d1, d2, d3] => { results := [.lit (.bool false)], args := [d1, d2, d3] }
  | _ => none }
def PurseChecksWrongFalsely : Prop := purseChecksRow.holds Try.pinned (OpenSpec.ofChange purseChecksWrong)

/-- 'baizelaw47.PurseTells': WHATEVER THE INPUT: true; the input reads as it did. -/
def purseTellsSpec : ChangeSpec := { name := "purseTells", fn := fun _ => fun
  | [d1, d2] => { results := [.lit (.bool true)], args := [d1, d2] }
  | _ => none }
def purseTellsRow : OpenClaim := { program := "ytjiecnoplnaahaa", sum := "061cb2a65ffe55e81e6e959de2901fc9c0df61ab745647f1949133a6e588d598", func := "baize/baizelaw47.PurseTells", spec := "purseTells", unfollowed := true, recurses := true, plainKeys := false, apart := false }
def PurseTellsSaid : Prop := purseTellsRow.holds Try.pinned (OpenSpec.ofChange purseTellsSpec)

/-- ITS FALSE NEIGHBOUR: 'it returns false'. Refute it at one input. -/
def purseTellsWrong : ChangeSpec := { name := "purseTells", fn := fun _ => fun
  | [d1, d2] => { results := [.lit (.bool false)], args := [d1, d2] }
  | _ => none }
def PurseTellsWrongFalsely : Prop := purseTellsRow.holds Try.pinned (OpenSpec.ofChange purseTellsWrong)

/-- 'baizelaw47.PurseThere': WHATEVER THE INPUT: true; the input reads as it did. -/
def purseThereSpec : ChangeSpec := { name := "purseThere", fn := fun _ => fun
  | [d1, d2] => { results := [.lit (.bool true)], args := [d1, d2] }
  | _ => none }
def purseThereRow : OpenClaim := { program := "ytjiecnoplnaahaa", sum := "061cb2a65ffe55e81e6e959de2901fc9c0df61ab745647f1949133a6e588d598", func := "baize/baizelaw47.PurseThere", spec := "purseThere", unfollowed := true, recurses := true, plainKeys := false, apart := false }
def PurseThereSaid : Prop := purseThereRow.holds Try.pinned (OpenSpec.ofChange purseThereSpec)

/-- ITS FALSE NEIGHBOUR: 'it returns false'. Refute it at one input. -/
def purseThereWrong : ChangeSpec := { name := "purseThere", fn := fun _ => fun
  | [d1, d2] => { results := [.lit (.bool false)], args := [d1, d2] }
  | _ => none }
def PurseThereWrongFalsely : Prop := purseThereRow.holds Try.pinned (OpenSpec.ofChange purseThereWrong)

/-- 'baizelaw47.PurseNewer': WHATEVER THE INPUT: true; the input reads as it did. -/
def purseNewerSpec : ChangeSpec := { name := "purseNewer", fn := fun _ => fun
  | [d1, d2, d3] => { results := [.lit (.bool true)], args := [d1, d2, d3] }
  | _ => none }
def purseNewerRow : OpenClaim := { program := "ytjiecnoplnaahaa", sum := "061cb2a65ffe55e81e6e959de2901fc9c0df61ab745647f1949133a6e588d598", func := "baize/baizelaw47.PurseNewer", spec := "purseNewer", unfollowed := true, recurses := true, plainKeys := false, apart := false }
def PurseNewerSaid : Prop := purseNewerRow.holds Try.pinned (OpenSpec.ofChange purseNewerSpec)

/-- ITS FALSE NEIGHBOUR: 'it returns false'. Refute it at one input. -/
def purseNewerWrong : ChangeSpec := { name := "purseNewer", fn := fun _ => fun
  | [d1, d2, d3] => { results := [.lit (.bool false)], args := [d1, d2, d3] }
  | _ => none }
def PurseNewerWrongFalsely : Prop := purseNewerRow.holds Try.pinned (OpenSpec.ofChange purseNewerWrong)

/- THE SECOND FORM. 'bulk': how many values and letters a reading holds, each counted each time it is reached (what is shared counts as often as it is met; a slice's spare places count too). A statement '..UptoSaid' is the law's where the arguments, and the package variables that the reading takes, are together of bulk at most 1048576: NARROWER than '..Said'. Prove '..Said' where nothing that the law and all that it calls make is longer than what came in: it says more and counts as full. Else prove '..UptoSaid'. A law counts once. -/
mutual
def uptoBulk {H : Type} : DataW H → Nat
  | .lit (.string bytes) => bytes.length + 1
  | .lit _ => 1
  | .nil => 1
  | .ptr d => uptoBulk d + 1
  | .slice elems spare => uptoBulkAll elems + uptoBulkAll spare + 1
  | .agg parts => uptoBulkAll parts + 1
  | .iface _ d => uptoBulk d + 1
  | .map entries => uptoBulkEntries entries + 1
  | .held _ => 1
def uptoBulkAll {H : Type} : List (DataW H) → Nat
  | [] => 0
  | d :: r => uptoBulk d + uptoBulkAll r
def uptoBulkEntries {H : Type} : List (Lit × DataW H) → Nat
  | [] => 0
  | x :: r => uptoBulkEntry x + uptoBulkEntries r
def uptoBulkEntry {H : Type} : Lit × DataW H → Nat
  | (.string bytes, d) => bytes.length + uptoBulk d + 1
  | (_, d) => uptoBulk d + 1
 end
def uptoSmall : (H : Type) → List (DataW H) → Bool := fun _ ds => decide (uptoBulkAll ds ≤ 1048576)
def OpenSpec.upto (s : _root_.Go.ChangeSpec) : _root_.Go.OpenSpec := { _root_.Go.OpenSpec.ofChange s with cond := some uptoSmall }

/-- 'baizelaw47.PursePays', WHERE WHAT IT READS IS OF BULK AT MOST 1048576: true; the input reads as it did. -/
def pursePaysUptoRow : OpenClaim := { program := "ytjiecnoplnaahaa", sum := "061cb2a65ffe55e81e6e959de2901fc9c0df61ab745647f1949133a6e588d598", func := "baize/baizelaw47.PursePays", spec := "pursePays", unfollowed := true, recurses := true, plainKeys := false, apart := false, narrowed := true }
def PursePaysUptoSaid : Prop := pursePaysUptoRow.holds Try.pinned (OpenSpec.upto pursePaysSpec)

/-- 'baizelaw47.PurseActs', WHERE WHAT IT READS IS OF BULK AT MOST 1048576: true; the input reads as it did. -/
def purseActsUptoRow : OpenClaim := { program := "ytjiecnoplnaahaa", sum := "061cb2a65ffe55e81e6e959de2901fc9c0df61ab745647f1949133a6e588d598", func := "baize/baizelaw47.PurseActs", spec := "purseActs", unfollowed := true, recurses := true, plainKeys := false, apart := false, narrowed := true }
def PurseActsUptoSaid : Prop := purseActsUptoRow.holds Try.pinned (OpenSpec.upto purseActsSpec)

/-- 'baizelaw47.PurseKeeps', WHERE WHAT IT READS IS OF BULK AT MOST 1048576: true; the input reads as it did. -/
def purseKeepsUptoRow : OpenClaim := { program := "ytjiecnoplnaahaa", sum := "061cb2a65ffe55e81e6e959de2901fc9c0df61ab745647f1949133a6e588d598", func := "baize/baizelaw47.PurseKeeps", spec := "purseKeeps", unfollowed := true, recurses := true, plainKeys := false, apart := false, narrowed := true }
def PurseKeepsUptoSaid : Prop := purseKeepsUptoRow.holds Try.pinned (OpenSpec.upto purseKeepsSpec)

/-- 'baizelaw47.PurseBack', WHERE WHAT IT READS IS OF BULK AT MOST 1048576: true; the input reads as it did. -/
def purseBackUptoRow : OpenClaim := { program := "ytjiecnoplnaahaa", sum := "061cb2a65ffe55e81e6e959de2901fc9c0df61ab745647f1949133a6e588d598", func := "baize/baizelaw47.PurseBack", spec := "purseBack", unfollowed := true, recurses := true, plainKeys := false, apart := false, narrowed := true }
def PurseBackUptoSaid : Prop := purseBackUptoRow.holds Try.pinned (OpenSpec.upto purseBackSpec)

/-- 'baizelaw47.PurseChecks', WHERE WHAT IT READS IS OF BULK AT MOST 1048576: true; the input reads as it did. -/
def purseChecksUptoRow : OpenClaim := { program := "ytjiecnoplnaahaa", sum := "061cb2a65ffe55e81e6e959de2901fc9c0df61ab745647f1949133a6e588d598", func := "baize/baizelaw47.PurseChecks", spec := "purseChecks", unfollowed := true, recurses := true, plainKeys := false, apart := false, narrowed := true }
def PurseChecksUptoSaid : Prop := purseChecksUptoRow.holds Try.pinned (OpenSpec.upto purseChecksSpec)

/-- 'baizelaw47.PurseTells', WHERE WHAT IT READS IS OF BULK AT MOST 1048576: true; the input reads as it did. -/
def purseTellsUptoRow : OpenClaim := { program := "ytjiecnoplnaahaa", sum := "061cb2a65ffe55e81e6e959de2901fc9c0df61ab745647f1949133a6e588d598", func := "baize/baizelaw47.PurseTells", spec := "purseTells", unfollowed := true, recurses := true, plainKeys := false, apart := false, narrowed := true }
def PurseTellsUptoSaid : Prop := purseTellsUptoRow.holds Try.pinned (OpenSpec.upto purseTellsSpec)

/-- 'baizelaw47.PurseThere', WHERE WHAT IT READS IS OF BULK AT MOST 1048576: true; the input reads as it did. -/
def purseThereUptoRow : OpenClaim := { program := "ytjiecnoplnaahaa", sum := "061cb2a65ffe55e81e6e959de2901fc9c0df61ab745647f1949133a6e588d598", func := "baize/baizelaw47.PurseThere", spec := "purseThere", unfollowed := true, recurses := true, plainKeys := false, apart := false, narrowed := true }
def PurseThereUptoSaid : Prop := purseThereUptoRow.holds Try.pinned (OpenSpec.upto purseThereSpec)

/-- 'baizelaw47.PurseNewer', WHERE WHAT IT READS IS OF BULK AT MOST 1048576: true; the input reads as it did. -/
def purseNewerUptoRow : OpenClaim := { program := "ytjiecnoplnaahaa", sum := "061cb2a65ffe55e81e6e959de2901fc9c0df61ab745647f1949133a6e588d598", func := "baize/baizelaw47.PurseNewer", spec := "purseNewer", unfollowed := true, recurses := true, plainKeys := false, apart := false, narrowed := true }
def PurseNewerUptoSaid : Prop := purseNewerUptoRow.holds Try.pinned (OpenSpec.upto purseNewerSpec)

end Rows
end Go.Proofs.Ytjiecnoplnaahaa
