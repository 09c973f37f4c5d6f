/- What CheatPicks is handed, opened. Condition: the row's own. -/
import Derived.Test.YtigolkdclacikaaDoorChOpen
import Derived.Test.YtigolkdclacikaaDoorChH
namespace Go.Proofs.YtigolkdclacikaaDoor
open Go.ChangeShapes Go.WideShapes Go.ChangeAt Go.RowKit Go.Joins Go.Deep
set_option maxRecDepth 100000 in
theorem cheatPicks_open {H : Type} {enc : TypeId × Value → H} {W : World} {base : Nat} {v0 v1 v2 : Value} {d0 d1 d2 : DataW H} {p0 p1 p2 : List MemPlace} {q r : Prop}
    (a0 : Value.okWide Tryd.prog W .any base 22 v0) (a1 : Value.okWide Tryd.prog W .any base 3 v1) (a2 : Value.okWide Tryd.prog W .any base 3 v2)
    (h0 : DataW.Trod enc Tryd.prog W 0 (fun _ => true) true 22 v0 d0 p0) (h1 : DataW.Trod enc Tryd.prog W 0 (fun _ => true) true 3 v1 d1 p1) (h2 : DataW.Trod enc Tryd.prog W 0 (fun _ => true) true 3 v2 d2 p2)
    (_hL : r) (hsh : W.ShapedOpen Tryd.prog) (_hq : q) :
    Calls Tryd.prog 4 #[v0, v1, v2] W fun e w' => e = .returned (.bool true) ∧ Below W.heap.size W w' := by
  obtain ⟨A, n, cp, l, rfl, hr, hn⟩ := open_de Tryd.underlying22 a0 h0
  obtain ⟨p, rfl, rfl, rfl, _⟩ := open_int Tryd.underlying3 a1 h1
  obtain ⟨k, rfl, rfl, rfl, _⟩ := open_int Tryd.underlying3 a2 h2
  exact picks_any _ _ _ _ _ _ _ (max_of_shape hsh) hr hn
end Go.Proofs.YtigolkdclacikaaDoor
