/- What CodeBack is handed, opened. Condition: the row's own. -/
import Derived.Test.YtecolkpnllikaaaDoorOpenBy
import Derived.Test.YtecolkpnllikaaaDoorCodeR
namespace Go.Proofs.YtecolkpnllikaaaDoor
open Go.ChangeShapes Go.WideShapes Go.ChangeAt Go.RowKit Go.Joins Go.Deep
set_option maxRecDepth 100000 in
theorem codeBack_open {H : Type} {enc : TypeId × Value → H} {W : World} {base : Nat} {v0 v1 v2 : Value} {d0 d1 d2 : DataW H} {p0 p1 p2 : List MemPlace} {q : Prop}
    (a0 : Value.okWide Tryd.prog W .any base 36 v0) (a1 : Value.okWide Tryd.prog W .any base 48 v1) (a2 : Value.okWide Tryd.prog W .any base 46 v2)
    (h0 : DataW.Trod enc Tryd.prog W 0 (fun _ => true) true 36 v0 d0 p0) (h1 : DataW.Trod enc Tryd.prog W 0 (fun _ => true) true 48 v1 d1 p1) (h2 : DataW.Trod enc Tryd.prog W 0 (fun _ => true) true 46 v2 d2 p2)
    (hL : laidMetH Tryd.prog Rows.codeBackRow.laid W) (_hq : q) :
    Calls Tryd.prog 7 #[v0, v1, v2] W fun e w' => e = .returned (.bool true) ∧ Below W.heap.size W w' := by
  obtain ⟨A, n, cp, l, rfl, hr, hn⟩ := open_ins Tryd.underlying36 a0 h0
  obtain ⟨B, m, c, b, rfl, hr', hmc, hm, hb⟩ := open_octets a1 h1
  obtain ⟨x2, rfl, rfl, rfl, w2⟩ := open_int Tryd.underlying46 a2 h2
  have b2 := bounds_u16 w2
  obtain ⟨ct, rfl⟩ := Int.eq_ofNat_of_zero_le b2.1
  exact codeBack_any _ _ _ _ _ _ ct _ _ _ (opTab_of_laid hL) hr hn hr' hm hb (by have := b2.2; omega)
end Go.Proofs.YtecolkpnllikaaaDoor
