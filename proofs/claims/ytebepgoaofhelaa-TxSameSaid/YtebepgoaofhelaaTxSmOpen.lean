/- What TxSame is handed, opened. Condition: the row's own. -/
import Derived.Test.YtebepgoaofhelaaTxOpen
import Derived.Test.YtebepgoaofhelaaTxSm
namespace Go.Proofs.Ytebepgoaofhelaa
open Go.ChangeShapes Go.WideShapes Go.ChangeAt Go.RowKit Go.Joins
set_option maxRecDepth 100000 in
theorem txSame_open {H : Type} {enc : TypeId × Value → H} {W : World} {base : Nat} {v0 v1 v2 : Value} {d0 d1 d2 : DataW H} {p0 p1 p2 : List MemPlace} {q : Prop}
    (a0 : Value.okWide Try.prog W .any base 26 v0) (a1 : Value.okWide Try.prog W .any base 26 v1) (a2 : Value.okWide Try.prog W .any base 3 v2)
    (h0 : DataW.Trod enc Try.prog W 0 (fun _ => true) true 26 v0 d0 p0) (h1 : DataW.Trod enc Try.prog W 0 (fun _ => true) true 26 v1 d1 p1) (h2 : DataW.Trod enc Try.prog W 0 (fun _ => true) true 3 v2 d2 p2) (_hq : q) :
    Calls Try.prog 5 #[v0, v1, v2] W fun e w' => e = .returned (.bool true) ∧ Below W.heap.size W w' := by
  obtain ⟨t, rfl, ht⟩ := open_tx a0 h0
  obtain ⟨o, rfl, ho⟩ := open_tx a1 h1
  obtain ⟨k, rfl, rfl, rfl, hw⟩ := open_int Try.underlying3 a2 h2
  exact txsame2_any t o k W ht ho (wf_i64 hw).1 (wf_i64 hw).2
end Go.Proofs.Ytebepgoaofhelaa
