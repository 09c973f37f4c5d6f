/- What KeysNone is handed, opened. Condition: the row's own. -/
import Derived.Test.YtmpklplojfjfbaaDoorKeOp
import Derived.Test.YtmpklplojfjfbaaDoorKjB
namespace Go.Proofs.YtmpklplojfjfbaaDoor
open Go.ChangeShapes Go.WideShapes Go.ChangeAt Go.RowKit Go.Joins
set_option maxRecDepth 100000 in
theorem keysNone_open {H : Type} {enc : TypeId × Value → H} {W : World} {base : Nat} {v0 v1 v2 : Value} {d0 d1 d2 : DataW H} {p0 p1 p2 : List MemPlace} {q q2 : Prop}
    (a0 : Value.okWide Tryd.prog W .any base 22 v0) (a1 : Value.okWide Tryd.prog W .any base 22 v1) (a2 : Value.okWide Tryd.prog W .any base 3 v2)
    (h0 : DataW.Trod enc Tryd.prog W 0 (fun _ => true) true 22 v0 d0 p0) (h1 : DataW.Trod enc Tryd.prog W 0 (fun _ => true) true 22 v1 d1 p1) (h2 : DataW.Trod enc Tryd.prog W 0 (fun _ => true) true 3 v2 d2 p2) (_hq : q) (_hq2 : q2) :
    Calls Tryd.prog 3 #[v0, v1, v2] W fun e w' => e = .returned (.bool true) ∧ Below W.heap.size W w' := by
  obtain ⟨s, rfl, hs⟩ := open_dig a0 h0
  obtain ⟨m, rfl, hm⟩ := open_dig a1 h1
  obtain ⟨n, rfl, _⟩ := open_int Tryd.underlying3 a2 h2
  exact knone_any s m n W hs hm
end Go.Proofs.YtmpklplojfjfbaaDoor
