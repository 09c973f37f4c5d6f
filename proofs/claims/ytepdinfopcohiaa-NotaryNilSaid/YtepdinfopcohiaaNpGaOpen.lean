/- What NotaryGathers is handed, opened. Condition: the row's own. -/
import Derived.Test.YtepdinfopcohiaaNoOpen2
import Derived.Test.YtepdinfopcohiaaNpF
namespace Go.Proofs.Ytepdinfopcohiaa
open Go.ChangeShapes Go.WideShapes Go.ChangeAt Go.RowKit Go.Joins
theorem open_u8 {H : Type} {enc : TypeId × Value → H} {W : World} {base : Nat} {v : Value} {d : DataW H} {p : List MemPlace} (a0 : Value.okWide Try.prog W .any base 5 v) (h0 : DataW.Trod enc Try.prog W 0 (fun _ => true) true 5 v d p) :
    ∃ b : Nat, v = .int .u8 (b : Int) ∧ b < 256 := by
  obtain ⟨n, rfl, _, _, hw⟩ := open_int Try.underlying5 a0 h0
  simp [Lit.wf, show IntKind.u8.min = 0 from rfl, show IntKind.u8.max = 255 from rfl] at hw
  obtain ⟨b, rfl⟩ := Int.eq_ofNat_of_zero_le hw.1
  exact ⟨b, rfl, by omega⟩
set_option maxRecDepth 100000 in
theorem notaryGathers_open {H : Type} {enc : TypeId × Value → H} {W : World} {base : Nat} {v0 v1 v2 : Value} {d0 d1 d2 : DataW H} {p0 p1 p2 : List MemPlace} {q : Prop}
    (a0 : Value.okWide Try.prog W .any base 37 v0) (a1 : Value.okWide Try.prog W .any base 5 v1) (a2 : Value.okWide Try.prog W .any base 5 v2)
    (h0 : DataW.Trod enc Try.prog W 0 (fun _ => true) true 37 v0 d0 p0) (h1 : DataW.Trod enc Try.prog W 0 (fun _ => true) true 5 v1 d1 p1) (h2 : DataW.Trod enc Try.prog W 0 (fun _ => true) true 5 v2 d2 p2) (_hq : q) :
    Calls Try.prog 8 #[v0, v1, v2] W fun e w' => e = .returned (.bool true) ∧ Below W.heap.size W w' := by
  obtain ⟨Aw, nw, cw, ws, rfl, hr, hws⟩ := open_bytes Try.underlying37 a0 h0
  obtain ⟨m, rfl, hm⟩ := open_u8 a1 h1
  obtain ⟨x, rfl, hx⟩ := open_u8 a2 h2
  exact gathers_any ws Aw nw cw m x W hr hws hm hx
end Go.Proofs.Ytepdinfopcohiaa
