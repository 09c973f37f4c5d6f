/-
  No cell of these rows narrows 'for every input' (looked for: loops, veiled, ifaces, maps, wideKeys, modest, calm, conditions, laid).
  DERIVED. THE GIVEN ROWS OF THIS SEAT. 8 by the template 'for every input the law returns true; each argument reads behind the call as it read before'; 0 by the template 'total and deterministic' (their statements: YthhiookcknnmdaaGreatTotals.lean).
  GIVEN WITH THE SEED: the statements are not yours to turn. If you find one false, say at which input.
  Laid BY PROGRAM, IN A SANDBOX (cutbox-rows.mjs): the forced cells as the released guide's own fill.sh prints them over the translation e37c1eeb4c821d5f… (all of the seat's roots in one cut). By AI agents, Wed Nov 11 2026. No macro, syntax, notation, axiom, sorry.
-/
import Derived.Test.YthhiookcknnmdaaGreatChecked
import GoSem.Claim
import GoSem.ClaimJoined
import GoSem.ClaimMapViews
import Derived.JoinedTies
import Derived.KernelRfl
namespace Go.Proofs.YthhiookcknnmdaaGreat
/- THE CELL 'sum', in the pinned program and in every row, IS THE sha256 OF THE DUMP (.gsa) THAT YthhiookcknnmdaaGreatProg.lean LOADS. Nothing in Lean hashes anything: it is a label: what it is worth is what the hold of that sum in a sandbox is worth. -/
noncomputable def Tryz.pinned : Pinned := { name := "ythhiookcknnmdaagreat", sum := "e37c1eeb4c821d5f1c00b33531e7cd5d91926dcd4adb7359f0dfbbb989e3ff52", checked := Tryz.checked }
namespace Rows
def none {H : Type} : Left H := { results := [], args := [] }

/-- 'baizelaw50.VirtualTimes': WHATEVER THE INPUT: true; the input reads as it did. -/
def virtualTimesSpec : ChangeSpec := { name := "virtualTimes", fn := fun _ => fun
  | [d1, d2, d3, d4] => { results := [.lit (.bool true)], args := [d1, d2, d3, d4] }
  | _ => none }
def virtualTimesRow : OpenClaim := { program := "ythhiookcknnmdaagreat", sum := "e37c1eeb4c821d5f1c00b33531e7cd5d91926dcd4adb7359f0dfbbb989e3ff52", func := "baize/baizelaw50.VirtualTimes", spec := "virtualTimes", unfollowed := true, recurses := true, plainKeys := false, apart := false }
def VirtualTimesSaid : Prop := virtualTimesRow.holds Tryz.pinned (OpenSpec.ofChange virtualTimesSpec)

/-- ITS FALSE NEIGHBOUR: 'it returns false'. Refute it at one input. -/
def virtualTimesWrong : ChangeSpec := { name := "virtualTimes", fn := fun _ => fun
  | [d1, d2, d3, d4] => { results := [.lit (.bool false)], args := [d1, d2, d3, d4] }
  | _ => none }
def VirtualTimesWrongFalsely : Prop := virtualTimesRow.holds Tryz.pinned (OpenSpec.ofChange virtualTimesWrong)

/-- 'baizelaw50.VirtualEnds': WHATEVER THE INPUT: true; the input reads as it did. -/
def virtualEndsSpec : ChangeSpec := { name := "virtualEnds", fn := fun _ => fun
  | [d1, d2, d3, d4, d5] => { results := [.lit (.bool true)], args := [d1, d2, d3, d4, d5] }
  | _ => none }
def virtualEndsRow : OpenClaim := { program := "ythhiookcknnmdaagreat", sum := "e37c1eeb4c821d5f1c00b33531e7cd5d91926dcd4adb7359f0dfbbb989e3ff52", func := "baize/baizelaw50.VirtualEnds", spec := "virtualEnds", unfollowed := true, recurses := true, plainKeys := false, apart := false }
def VirtualEndsSaid : Prop := virtualEndsRow.holds Tryz.pinned (OpenSpec.ofChange virtualEndsSpec)

/-- ITS FALSE NEIGHBOUR: 'it returns false'. Refute it at one input. -/
def virtualEndsWrong : ChangeSpec := { name := "virtualEnds", fn := fun _ => fun
  | [d1, d2, d3, d4, d5] => { results := [.lit (.bool false)], args := [d1, d2, d3, d4, d5] }
  | _ => none }
def VirtualEndsWrongFalsely : Prop := virtualEndsRow.holds Tryz.pinned (OpenSpec.ofChange virtualEndsWrong)

/-- 'baizelaw50.VirtualPlans': WHATEVER THE INPUT: true; the input reads as it did. -/
def virtualPlansSpec : ChangeSpec := { name := "virtualPlans", fn := fun _ => fun
  | [d1, d2, d3, d4, d5] => { results := [.lit (.bool true)], args := [d1, d2, d3, d4, d5] }
  | _ => none }
def virtualPlansRow : OpenClaim := { program := "ythhiookcknnmdaagreat", sum := "e37c1eeb4c821d5f1c00b33531e7cd5d91926dcd4adb7359f0dfbbb989e3ff52", func := "baize/baizelaw50.VirtualPlans", spec := "virtualPlans", unfollowed := true, recurses := true, plainKeys := false, apart := false }
def VirtualPlansSaid : Prop := virtualPlansRow.holds Tryz.pinned (OpenSpec.ofChange virtualPlansSpec)

/-- ITS FALSE NEIGHBOUR: 'it returns false'. Refute it at one input. -/
def virtualPlansWrong : ChangeSpec := { name := "virtualPlans", fn := fun _ => fun
  | [d1, d2, d3, d4, d5] => { results := [.lit (.bool false)], args := [d1, d2, d3, d4, d5] }
  | _ => none }
def VirtualPlansWrongFalsely : Prop := virtualPlansRow.holds Tryz.pinned (OpenSpec.ofChange virtualPlansWrong)

/-- 'baizelaw50.VirtualHub': WHATEVER THE INPUT: true; the input reads as it did. -/
def virtualHubSpec : ChangeSpec := { name := "virtualHub", fn := fun _ => fun
  | [d1, d2, d3, d4, d5] => { results := [.lit (.bool true)], args := [d1, d2, d3, d4, d5] }
  | _ => none }
def virtualHubRow : OpenClaim := { program := "ythhiookcknnmdaagreat", sum := "e37c1eeb4c821d5f1c00b33531e7cd5d91926dcd4adb7359f0dfbbb989e3ff52", func := "baize/baizelaw50.VirtualHub", spec := "virtualHub", unfollowed := true, recurses := true, plainKeys := false, apart := false }
def VirtualHubSaid : Prop := virtualHubRow.holds Tryz.pinned (OpenSpec.ofChange virtualHubSpec)

/-- ITS FALSE NEIGHBOUR: 'it returns false'. Refute it at one input. -/
def virtualHubWrong : ChangeSpec := { name := "virtualHub", fn := fun _ => fun
  | [d1, d2, d3, d4, d5] => { results := [.lit (.bool false)], args := [d1, d2, d3, d4, d5] }
  | _ => none }
def VirtualHubWrongFalsely : Prop := virtualHubRow.holds Tryz.pinned (OpenSpec.ofChange virtualHubWrong)

/-- 'baizelaw50.VirtualMoney': WHATEVER THE INPUT: true; the input reads as it did. -/
def virtualMoneySpec : ChangeSpec := { name := "virtualMoney", fn := fun _ => fun
  | [d1, d2, d3, d4] => { results := [.lit (.bool true)], args := [d1, d2, d3, d4] }
  | _ => none }
def virtualMoneyRow : OpenClaim := { program := "ythhiookcknnmdaagreat", sum := "e37c1eeb4c821d5f1c00b33531e7cd5d91926dcd4adb7359f0dfbbb989e3ff52", func := "baize/baizelaw50.VirtualMoney", spec := "virtualMoney", unfollowed := true, recurses := true, plainKeys := false, apart := false }
def VirtualMoneySaid : Prop := virtualMoneyRow.holds Tryz.pinned (OpenSpec.ofChange virtualMoneySpec)

/-- ITS FALSE NEIGHBOUR: 'it returns false'. Refute it at one input. -/
def virtualMoneyWrong : ChangeSpec := { name := "virtualMoney", fn := fun _ => fun
  | [d1, d2, d3, d4] => { results := [.lit (.bool false)], args := [d1, d2, d3, d4] }
  | _ => none }
def VirtualMoneyWrongFalsely : Prop := virtualMoneyRow.holds Tryz.pinned (OpenSpec.ofChange virtualMoneyWrong)

/-- 'baizelaw50.VirtualBack': WHATEVER THE INPUT: true; the input reads as it did. -/
def virtualBackSpec : ChangeSpec := { name := "virtualBack", fn := fun _ => fun
  | [d1, d2, d3, d4, d5] => { results := [.lit (.bool true)], args := [d1, d2, d3, d4, d5] }
  | _ => none }
def virtualBackRow : OpenClaim := { program := "ythhiookcknnmdaagreat", sum := "e37c1eeb4c821d5f1c00b33531e7cd5d91926dcd4adb7359f0dfbbb989e3ff52", func := "baize/baizelaw50.VirtualBack", spec := "virtualBack", unfollowed := true, recurses := true, plainKeys := false, apart := false }
def VirtualBackSaid : Prop := virtualBackRow.holds Tryz.pinned (OpenSpec.ofChange virtualBackSpec)

/-- ITS FALSE NEIGHBOUR: 'it returns false'. Refute it at one input. -/
def virtualBackWrong : ChangeSpec := { name := "virtualBack", fn := fun _ => fun
  | [d1, d2, d3, d4, d5] => { results := [.lit (.bool false)], args := [d1, d2, d3, d4, d5] }
  | _ => none }
def VirtualBackWrongFalsely : Prop := virtualBackRow.holds Tryz.pinned (OpenSpec.ofChange virtualBackWrong)

/-- 'baizelaw50.VirtualPlays': WHATEVER THE INPUT: true; the input reads as it did. -/
def virtualPlaysSpec : ChangeSpec := { name := "virtualPlays", fn := fun _ => fun
  | [d1, d2, d3, d4] => { results := [.lit (.bool true)], args := [d1, d2, d3, d4] }
  | _ => none }
def virtualPlaysRow : OpenClaim := { program := "ythhiookcknnmdaagreat", sum := "e37c1eeb4c821d5f1c00b33531e7cd5d91926dcd4adb7359f0dfbbb989e3ff52", func := "baize/baizelaw50.VirtualPlays", spec := "virtualPlays", unfollowed := true, recurses := true, plainKeys := false, apart := false }
def VirtualPlaysSaid : Prop := virtualPlaysRow.holds Tryz.pinned (OpenSpec.ofChange virtualPlaysSpec)

/-- ITS FALSE NEIGHBOUR: 'it returns false'. Refute it at one input. -/
def virtualPlaysWrong : ChangeSpec := { name := "virtualPlays", fn := fun _ => fun
  | [d1, d2, d3, d4] => { results := [.lit (.bool false)], args := [d1, d2, d3, d4] }
  | _ => none }
def VirtualPlaysWrongFalsely : Prop := virtualPlaysRow.holds Tryz.pinned (OpenSpec.ofChange virtualPlaysWrong)

/-- 'baizelaw50.VirtualClones': WHATEVER THE INPUT: true; the input reads as it did. -/
def virtualClonesSpec : ChangeSpec := { name := "virtualClones", fn := fun _ => fun
  | [d1, d2, d3, d4] => { results := [.lit (.bool true)], args := [d1, d2, d3, d4] }
  | _ => none }
def virtualClonesRow : OpenClaim := { program := "ythhiookcknnmdaagreat", sum := "e37c1eeb4c821d5f1c00b33531e7cd5d91926dcd4adb7359f0dfbbb989e3ff52", func := "baize/baizelaw50.VirtualClones", spec := "virtualClones", inPlace := ["maps.clone"], unfollowed := true, recurses := true, plainKeys := false, apart := false }
def VirtualClonesSaid : Prop := virtualClonesRow.holds Tryz.pinned (OpenSpec.ofChange virtualClonesSpec)

/-- ITS FALSE NEIGHBOUR: 'it returns false'. Refute it at one input. -/
def virtualClonesWrong : ChangeSpec := { name := "virtualClones", fn := fun _ => fun
  | [d1, d2, d3, d4] => { results := [.lit (.bool false)], args := [d1, d2, d3, d4] }
  | _ => none }
def VirtualClonesWrongFalsely : Prop := virtualClonesRow.holds Tryz.pinned (OpenSpec.ofChange virtualClonesWrong)

/- THE SECOND FORM. 'bulk': how many values and letters a reading holds, each counted each time it is reached (what is shared counts as often as it is met; a slice's spare places count too). A statement '..UptoSaid' is the law's where the arguments, and the package variables that the reading takes, are together of bulk at most 1048576: NARROWER than '..Said'. Prove '..Said' where nothing that the law and all that it calls make is longer than what came in: it says more and counts as full. Else prove '..UptoSaid'. A law counts once. -/
mutual
def uptoBulk {H : Type} : DataW H → Nat
  | .lit (.string bytes) => bytes.length + 1
  | .lit _ => 1
  | .nil => 1
  | .ptr d => uptoBulk d + 1
  | .slice elems spare => uptoBulkAll elems + uptoBulkAll spare + 1
  | .agg parts => uptoBulkAll parts + 1
  | .iface _ d => uptoBulk d + 1
  | .map entries => uptoBulkEntries entries + 1
  | .held _ => 1
def uptoBulkAll {H : Type} : List (DataW H) → Nat
  | [] => 0
  | d :: r => uptoBulk d + uptoBulkAll r
def uptoBulkEntries {H : Type} : List (Lit × DataW H) → Nat
  | [] => 0
  | x :: r => uptoBulkEntry x + uptoBulkEntries r
def uptoBulkEntry {H : Type} : Lit × DataW H → Nat
  | (.string bytes, d) => bytes.length + uptoBulk d + 1
  | (_, d) => uptoBulk d + 1
 end
def uptoSmall : (H : Type) → List (DataW H) → Bool := fun _ ds => decide (uptoBulkAll ds ≤ 1048576)
def OpenSpec.upto (s : _root_.Go.ChangeSpec) : _root_.Go.OpenSpec := { _root_.Go.OpenSpec.ofChange s with cond := some uptoSmall }

/-- 'baizelaw50.VirtualTimes', WHERE WHAT IT READS IS OF BULK AT MOST 1048576: true; the input reads as it did. -/
def virtualTimesUptoRow : OpenClaim := { program := "ythhiookcknnmdaagreat", sum := "e37c1eeb4c821d5f1c00b33531e7cd5d91926dcd4adb7359f0dfbbb989e3ff52", func := "baize/baizelaw50.VirtualTimes", spec := "virtualTimes", unfollowed := true, recurses := true, plainKeys := false, apart := false, narrowed := true }
def VirtualTimesUptoSaid : Prop := virtualTimesUptoRow.holds Tryz.pinned (OpenSpec.upto virtualTimesSpec)

/-- 'baizelaw50.VirtualEnds', WHERE WHAT IT READS IS OF BULK AT MOST 1048576: true; the input reads as it did. -/
def virtualEndsUptoRow : OpenClaim := { program := "ythhiookcknnmdaagreat", sum := "e37c1eeb4c821d5f1c00b33531e7cd5d91926dcd4adb7359f0dfbbb989e3ff52", func := "baize/baizelaw50.VirtualEnds", spec := "virtualEnds", unfollowed := true, recurses := true, plainKeys := false, apart := false, narrowed := true }
def VirtualEndsUptoSaid : Prop := virtualEndsUptoRow.holds Tryz.pinned (OpenSpec.upto virtualEndsSpec)

/-- 'baizelaw50.VirtualPlans', WHERE WHAT IT READS IS OF BULK AT MOST 1048576: true; the input reads as it did. -/
def virtualPlansUptoRow : OpenClaim := { program := "ythhiookcknnmdaagreat", sum := "e37c1eeb4c821d5f1c00b33531e7cd5d91926dcd4adb7359f0dfbbb989e3ff52", func := "baize/baizelaw50.VirtualPlans", spec := "virtualPlans", unfollowed := true, recurses := true, plainKeys := false, apart := false, narrowed := true }
def VirtualPlansUptoSaid : Prop := virtualPlansUptoRow.holds Tryz.pinned (OpenSpec.upto virtualPlansSpec)

/-- 'baizelaw50.VirtualHub', WHERE WHAT IT READS IS OF BULK AT MOST 1048576: true; the input reads as it did. -/
def virtualHubUptoRow : OpenClaim := { program := "ythhiookcknnmdaagreat", sum := "e37c1eeb4c821d5f1c00b33531e7cd5d91926dcd4adb7359f0dfbbb989e3ff52", func := "baize/baizelaw50.VirtualHub", spec := "virtualHub", unfollowed := true, recurses := true, plainKeys := false, apart := false, narrowed := true }
def VirtualHubUptoSaid : Prop := virtualHubUptoRow.holds Tryz.pinned (OpenSpec.upto virtualHubSpec)

/-- 'baizelaw50.VirtualMoney', WHERE WHAT IT READS IS OF BULK AT MOST 1048576: true; the input reads as it did. -/
def virtualMoneyUptoRow : OpenClaim := { program := "ythhiookcknnmdaagreat", sum := "e37c1eeb4c821d5f1c00b33531e7cd5d91926dcd4adb7359f0dfbbb989e3ff52", func := "baize/baizelaw50.VirtualMoney", spec := "virtualMoney", unfollowed := true, recurses := true, plainKeys := false, apart := false, narrowed := true }
def VirtualMoneyUptoSaid : Prop := virtualMoneyUptoRow.holds Tryz.pinned (OpenSpec.upto virtualMoneySpec)

/-- 'baizelaw50.VirtualBack', WHERE WHAT IT READS IS OF BULK AT MOST 1048576: true; the input reads as it did. -/
def virtualBackUptoRow : OpenClaim := { program := "ythhiookcknnmdaagreat", sum := "e37c1eeb4c821d5f1c00b33531e7cd5d91926dcd4adb7359f0dfbbb989e3ff52", func := "baize/baizelaw50.VirtualBack", spec := "virtualBack", unfollowed := true, recurses := true, plainKeys := false, apart := false, narrowed := true }
def VirtualBackUptoSaid : Prop := virtualBackUptoRow.holds Tryz.pinned (OpenSpec.upto virtualBackSpec)

/-- 'baizelaw50.VirtualPlays', WHERE WHAT IT READS IS OF BULK AT MOST 1048576: true; the input reads as it did. -/
def virtualPlaysUptoRow : OpenClaim := { program := "ythhiookcknnmdaagreat", sum := "e37c1eeb4c821d5f1c00b33531e7cd5d91926dcd4adb7359f0dfbbb989e3ff52", func := "baize/baizelaw50.VirtualPlays", spec := "virtualPlays", unfollowed := true, recurses := true, plainKeys := false, apart := false, narrowed := true }
def VirtualPlaysUptoSaid : Prop := virtualPlaysUptoRow.holds Tryz.pinned (OpenSpec.upto virtualPlaysSpec)

/-- 'baizelaw50.VirtualClones', WHERE WHAT IT READS IS OF BULK AT MOST 1048576: true; the input reads as it did. -/
def virtualClonesUptoRow : OpenClaim := { program := "ythhiookcknnmdaagreat", sum := "e37c1eeb4c821d5f1c00b33531e7cd5d91926dcd4adb7359f0dfbbb989e3ff52", func := "baize/baizelaw50.VirtualClones", spec := "virtualClones", inPlace := ["maps.clone"], unfollowed := true, recurses := true, plainKeys := false, apart := false, narrowed := true }
def VirtualClonesUptoSaid : Prop := virtualClonesUptoRow.holds Tryz.pinned (OpenSpec.upto virtualClonesSpec)

end Rows
end Go.Proofs.YthhiookcknnmdaaGreat
