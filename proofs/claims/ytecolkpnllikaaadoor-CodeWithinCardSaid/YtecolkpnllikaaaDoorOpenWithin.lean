/- What CodeWithin is handed, opened. Condition: the row's own. -/
import Derived.Test.YtecolkpnllikaaaDoorOpenIns
import Derived.Test.YtecolkpnllikaaaDoorCodeWithin
namespace Go.Proofs.YtecolkpnllikaaaDoor
open Go.ChangeShapes Go.WideShapes Go.ChangeAt Go.RowKit Go.Joins Go.Deep
theorem u16_bounds {n : Int} (h : (Lit.int .u16 n).wf = true) : 0 ≤ n ∧ n ≤ 65535 := bounds_u16 h
set_option maxRecDepth 100000 in
theorem codeWithin_open {H : Type} {enc : TypeId × Value → H} {W : World} {base : Nat} {v0 v1 v2 v3 v4 : Value} {d0 d1 d2 d3 d4 : DataW H} {p0 p1 p2 p3 p4 : List MemPlace} {q : Prop}
    (a0 : Value.okWide Tryd.prog W .any base 23 v0) (a1 : Value.okWide Tryd.prog W .any base 46 v1) (a2 : Value.okWide Tryd.prog W .any base 46 v2) (a3 : Value.okWide Tryd.prog W .any base 46 v3) (a4 : Value.okWide Tryd.prog W .any base 46 v4)
    (h0 : DataW.Trod enc Tryd.prog W 0 (fun _ => true) true 23 v0 d0 p0) (h1 : DataW.Trod enc Tryd.prog W 0 (fun _ => true) true 46 v1 d1 p1) (h2 : DataW.Trod enc Tryd.prog W 0 (fun _ => true) true 46 v2 d2 p2)
    (h3 : DataW.Trod enc Tryd.prog W 0 (fun _ => true) true 46 v3 d3 p3) (h4 : DataW.Trod enc Tryd.prog W 0 (fun _ => true) true 46 v4 d4 p4)
    (hL : laidMetH Tryd.prog Rows.codeWithinRow.laid W) (_hq : q) :
    Calls Tryd.prog 5 #[v0, v1, v2, v3, v4] W fun e w' => e = .returned (.bool true) ∧ Below W.heap.size W w' := by
  obtain ⟨op, a, b, c, rfl⟩ := open_I a0 h0
  obtain ⟨x1, rfl, rfl, rfl, w1⟩ := open_int Tryd.underlying46 a1 h1
  obtain ⟨x2, rfl, rfl, rfl, w2⟩ := open_int Tryd.underlying46 a2 h2
  obtain ⟨x3, rfl, rfl, rfl, w3⟩ := open_int Tryd.underlying46 a3 h3
  obtain ⟨x4, rfl, rfl, rfl, w4⟩ := open_int Tryd.underlying46 a4 h4
  have b1 := u16_bounds w1
  have b2 := u16_bounds w2
  have b3 := u16_bounds w3
  have b4 := u16_bounds w4
  exact within_any _ _ _ _ _ _ _ _ _ (opTab_of_laid hL) b1.1 b1.2 b2.1 b2.2 b3.1 b3.2 b4.1 b4.2
end Go.Proofs.YtecolkpnllikaaaDoor
