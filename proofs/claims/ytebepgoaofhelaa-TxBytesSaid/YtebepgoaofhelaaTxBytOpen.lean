/- What TxBytes is handed, opened. Condition: the row's own. -/
import Derived.Test.YtebepgoaofhelaaTxOpen
import Derived.Test.YtebepgoaofhelaaTxByt
namespace Go.Proofs.Ytebepgoaofhelaa
open Go.ChangeShapes Go.WideShapes Go.ChangeAt Go.RowKit Go.Joins
set_option maxRecDepth 100000 in
theorem txBytes_open {H : Type} {enc : TypeId × Value → H} {W : World} {base : Nat} {v0 : Value} {d0 : DataW H} {p0 : List MemPlace} {q : Prop}
    (a0 : Value.okWide Try.prog W .any base 26 v0)
    (h0 : DataW.Trod enc Try.prog W 0 (fun _ => true) true 26 v0 d0 p0) (_hq : q) :
    Calls Try.prog 7 #[v0] W fun e w' => e = .returned (.bool true) ∧ Below W.heap.size W w' := by
  obtain ⟨t, rfl, ht⟩ := open_tx a0 h0
  exact txbytes_any t W ht
end Go.Proofs.Ytebepgoaofhelaa
