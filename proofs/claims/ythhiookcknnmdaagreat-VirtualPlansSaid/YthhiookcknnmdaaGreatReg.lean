/- A region of a function by its number, so that a law of it may stand alone. No condition. -/
import Derived.Test.YthhiookcknnmdaaGreatProg
namespace Go.Proofs.YthhiookcknnmdaaGreat
def findR (n : Nat) : Code → Option Code
 | .region i ops d => if i = n then some (.region i ops d) else none
 | .seq a b => match findR n a with | some c => some c | none => findR n b
 | .cond _ a b => match findR n a with | some c => some c | none => findR n b
 | .block _ b => findR n b
 | .loop b => findR n b
 | .scope b => findR n b
 | _ => none
def codeR (n : Nat) (f : Func) : Code := match f.body with | some b => (match findR n b with | some x => x | none => .skip) | none => .skip
end Go.Proofs.YthhiookcknnmdaaGreat
