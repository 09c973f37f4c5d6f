/- What NotaryNil is handed, opened. Condition: the row's own. -/
import Derived.Test.YtepdinfopcohiaaNpGaOpen
import Derived.Test.YtepdinfopcohiaaNpO
namespace Go.Proofs.Ytepdinfopcohiaa
open Go.ChangeShapes Go.WideShapes Go.ChangeAt Go.RowKit Go.Joins
set_option maxRecDepth 100000 in
theorem notaryNil_open {H : Type} {enc : TypeId × Value → H} {W : World} {base : Nat} {v0 v1 : Value} {d0 d1 : DataW H} {p0 p1 : List MemPlace} {q : Prop}
    (a0 : Value.okWide Try.prog W .any base 37 v0) (a1 : Value.okWide Try.prog W .any base 5 v1)
    (h0 : DataW.Trod enc Try.prog W 0 (fun _ => true) true 37 v0 d0 p0) (h1 : DataW.Trod enc Try.prog W 0 (fun _ => true) true 5 v1 d1 p1) (_hq : q) :
    Calls Try.prog 9 #[v0, v1] W fun e w' => e = .returned (.bool true) ∧ Below W.heap.size W w' := by
  obtain ⟨Aw, nw, cw, ws, rfl, hr, hws⟩ := open_bytes Try.underlying37 a0 h0
  obtain ⟨m, rfl, hm⟩ := open_u8 a1 h1
  exact nil_any ws Aw nw cw m W hr hws hm
end Go.Proofs.Ytepdinfopcohiaa
