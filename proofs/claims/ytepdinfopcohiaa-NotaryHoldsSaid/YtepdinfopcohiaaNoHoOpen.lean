/- What NotaryHolds is handed, opened. Condition: the row's own. -/
import Derived.Test.YtepdinfopcohiaaNoOpen
import Derived.Test.YtepdinfopcohiaaNoL
namespace Go.Proofs.Ytepdinfopcohiaa
open Go.ChangeShapes Go.WideShapes Go.ChangeAt Go.RowKit Go.Joins
set_option maxRecDepth 100000 in
theorem notaryHolds_open {H : Type} {enc : TypeId × Value → H} {W : World} {base : Nat} {v0 : Value} {d0 : DataW H} {p0 : List MemPlace} {q : Prop}
    (a0 : Value.okWide Try.prog W .any base 22 v0)
    (h0 : DataW.Trod enc Try.prog W 0 (fun _ => true) true 22 v0 d0 p0) (_hq : q) :
    Calls Try.prog 3 #[v0] W fun e w' => e = .returned (.bool true) ∧ Below W.heap.size W w' := by
  obtain ⟨A, n, c, l, rfl, hr, hs⟩ := open_le Try.underlying22 a0 h0
  exact holds_any l A n c W hr hs
end Go.Proofs.Ytepdinfopcohiaa
