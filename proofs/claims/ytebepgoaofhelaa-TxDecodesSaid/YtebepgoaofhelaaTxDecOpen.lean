/- What TxDecodes is handed, opened. Condition: the row's own. -/
import Derived.Test.YtebepgoaofhelaaTxOpen
import Derived.Test.YtebepgoaofhelaaTxDec
namespace Go.Proofs.Ytebepgoaofhelaa
open Go.ChangeShapes Go.WideShapes Go.ChangeAt Go.RowKit Go.Joins
set_option maxRecDepth 100000 in
theorem txDecodes_open {H : Type} {enc : TypeId × Value → H} {W : World} {base : Nat} {v0 : Value} {d0 : DataW H} {p0 : List MemPlace} {q : Prop}
    (a0 : Value.okWide Try.prog W .any base 24 v0)
    (h0 : DataW.Trod enc Try.prog W 0 (fun _ => true) true 24 v0 d0 p0) (_hq : q) :
    Calls Try.prog 6 #[v0] W fun e w' => e = .returned (.bool true) ∧ Below W.heap.size W w' := by
  obtain ⟨A, n, c, rfl⟩ := okWide_slice Try.underlying24 a0
  obtain ⟨fuel, hf⟩ := h0
  obtain ⟨A', m, c', l, hcs, hr, hmc, hm, hb⟩ := bytes_of_cells Try.underlying24 hf
  simp [Value.cells] at hcs
  obtain ⟨rfl, rfl, rfl⟩ := hcs
  exact decodes_any A n c l W hr hmc hm hb
end Go.Proofs.Ytebepgoaofhelaa
