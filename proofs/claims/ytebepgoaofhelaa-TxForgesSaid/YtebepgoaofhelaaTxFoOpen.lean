/- What TxForges is handed, opened. Condition: the row's own. -/
import Derived.Test.YtebepgoaofhelaaTxOpen
import Derived.Test.YtebepgoaofhelaaTxFo
namespace Go.Proofs.Ytebepgoaofhelaa
open Go.ChangeShapes Go.WideShapes Go.ChangeAt Go.RowKit Go.Joins
set_option maxRecDepth 100000 in
theorem txForges_open {H : Type} {enc : TypeId × Value → H} {W : World} {base : Nat} {v0 v1 : Value} {d0 d1 : DataW H} {p0 p1 : List MemPlace} {q : Prop}
    (a0 : Value.okWide Try.prog W .any base 26 v0) (a1 : Value.okWide Try.prog W .any base 26 v1)
    (h0 : DataW.Trod enc Try.prog W 0 (fun _ => true) true 26 v0 d0 p0) (h1 : DataW.Trod enc Try.prog W 0 (fun _ => true) true 26 v1 d1 p1) (_hq : q) :
    Calls Try.prog 8 #[v0, v1] W fun e w' => e = .returned (.bool true) ∧ Below W.heap.size W w' := by
  obtain ⟨t, rfl, ht⟩ := open_tx a0 h0
  obtain ⟨o, rfl, ho⟩ := open_tx a1 h1
  exact forges_any t o W ht ho
end Go.Proofs.Ytebepgoaofhelaa
