/- What TxBounds is handed, opened. Condition: the row's own. -/
import Derived.Test.YtebepgoaofhelaaTxBounds
import Derived.Test.YtebepgoaofhelaaRanges
import Derived.Lib.SmallJoins
namespace Go.Proofs.Ytebepgoaofhelaa
open Go.ChangeShapes Go.WideShapes Go.ChangeAt Go.RowKit Go.Joins
set_option maxRecDepth 100000 in
theorem txBounds_open {H : Type} {enc : TypeId × Value → H} {W : World} {base : Nat} {v0 v1 : Value} {d0 d1 : DataW H} {p0 p1 : List MemPlace} {q : Prop}
    (a0 : Value.okWide Try.prog W .any base 3 v0) (a1 : Value.okWide Try.prog W .any base 5 v1)
    (h0 : DataW.Trod enc Try.prog W 0 (fun _ => true) true 3 v0 d0 p0) (h1 : DataW.Trod enc Try.prog W 0 (fun _ => true) true 5 v1 d1 p1) (_hq : q) :
    Calls Try.prog 4 #[v0, v1] W fun e w' => e = .returned (.bool true) ∧ Below W.heap.size W w' := by
  obtain ⟨n, rfl, rfl, rfl, hn⟩ := open_int Try.underlying3 a0 h0
  obtain ⟨k, rfl, rfl, rfl, hk⟩ := open_int Try.underlying5 a1 h1
  obtain ⟨m, rfl⟩ := Int.eq_ofNat_of_zero_le (wf_u8 hk).1
  exact bounds_any n m W (wf_i64 hn).1 (wf_i64 hn).2 (by have := (wf_u8 hk).2; omega)
end Go.Proofs.Ytebepgoaofhelaa
