/- What NotaryApart is handed, opened. Condition: the row's own. -/
import Derived.Test.YtepdinfopcohiaaNoOpen
import Derived.Test.YtepdinfopcohiaaNpI
namespace Go.Proofs.Ytepdinfopcohiaa
open Go.ChangeShapes Go.WideShapes Go.ChangeAt Go.RowKit Go.Joins
set_option maxRecDepth 100000 in
theorem notaryApart_open {H : Type} {enc : TypeId × Value → H} {W : World} {base : Nat} {v0 v1 : Value} {d0 d1 : DataW H} {p0 p1 : List MemPlace} {q : Prop}
    (a0 : Value.okWide Try.prog W .any base 22 v0) (a1 : Value.okWide Try.prog W .any base 22 v1)
    (h0 : DataW.Trod enc Try.prog W 0 (fun _ => true) true 22 v0 d0 p0) (h1 : DataW.Trod enc Try.prog W 0 (fun _ => true) true 22 v1 d1 p1) (_hq : q) :
    Calls Try.prog 6 #[v0, v1] W fun e w' => e = .returned (.bool true) ∧ Below W.heap.size W w' := by
  obtain ⟨A, n, c, l, rfl, hr, hs⟩ := open_le Try.underlying22 a0 h0
  obtain ⟨Am, nm, cm, m, rfl, hrm, hsm⟩ := open_le Try.underlying22 a1 h1
  exact apart_any l A n c m Am nm cm W hr hs hrm hsm
end Go.Proofs.Ytepdinfopcohiaa
