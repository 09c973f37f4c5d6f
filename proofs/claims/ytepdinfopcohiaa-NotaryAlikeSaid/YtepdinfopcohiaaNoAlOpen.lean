/- What NotaryAlike is handed, opened. Condition: the row's own. -/
import Derived.Test.YtepdinfopcohiaaNoOpen2
import Derived.Test.YtepdinfopcohiaaNoV
namespace Go.Proofs.Ytepdinfopcohiaa
open Go.ChangeShapes Go.WideShapes Go.ChangeAt Go.RowKit Go.Joins
theorem open_u64 {H : Type} {enc : TypeId × Value → H} {W : World} {base : Nat} {v : Value} {d : DataW H} {p : List MemPlace} (a0 : Value.okWide Try.prog W .any base 34 v) (h0 : DataW.Trod enc Try.prog W 0 (fun _ => true) true 34 v d p) :
    ∃ b : Nat, v = .int .u64 (b : Int) ∧ b < 18446744073709551616 := by
  obtain ⟨n, rfl, _, _, hw⟩ := open_int Try.underlying34 a0 h0
  simp [Lit.wf, show IntKind.u64.min = 0 from rfl, show IntKind.u64.max = 18446744073709551615 from rfl] at hw
  obtain ⟨b, rfl⟩ := Int.eq_ofNat_of_zero_le hw.1
  exact ⟨b, rfl, by omega⟩
set_option maxRecDepth 100000 in
theorem notaryAlike_open {H : Type} {enc : TypeId × Value → H} {W : World} {base : Nat} {v0 v1 v2 : Value} {d0 d1 d2 : DataW H} {p0 p1 p2 : List MemPlace} {q : Prop}
    (a0 : Value.okWide Try.prog W .any base 34 v0) (a1 : Value.okWide Try.prog W .any base 43 v1) (a2 : Value.okWide Try.prog W .any base 37 v2)
    (h0 : DataW.Trod enc Try.prog W 0 (fun _ => true) true 34 v0 d0 p0) (h1 : DataW.Trod enc Try.prog W 0 (fun _ => true) true 43 v1 d1 p1) (h2 : DataW.Trod enc Try.prog W 0 (fun _ => true) true 37 v2 d2 p2) (_hq : q) :
    Calls Try.prog 4 #[v0, v1, v2] W fun e w' => e = .returned (.bool true) ∧ Below W.heap.size W w' := by
  obtain ⟨key, rfl, hkey⟩ := open_u64 a0 h0
  obtain ⟨Am, nm, cm, ms, rfl, hrm, hms⟩ := open_nums Try.underlying43 a1 h1
  obtain ⟨Ay, ny, cy, ys, rfl, hry, hys⟩ := open_bytes Try.underlying37 a2 h2
  exact alike_any key Am nm cm ms Ay ny cy ys W hkey hrm hms hry hys
end Go.Proofs.Ytepdinfopcohiaa
