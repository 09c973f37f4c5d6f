/- What CodeBytes is handed, opened. Condition: the row's own. -/
import Derived.Test.YtecolkpnllikaaaDoorOpenBy
import Derived.Test.YtecolkpnllikaaaDoorCodeQ
namespace Go.Proofs.YtecolkpnllikaaaDoor
open Go.ChangeShapes Go.WideShapes Go.ChangeAt Go.RowKit Go.Joins Go.Deep
set_option maxRecDepth 100000 in
theorem codeBytes_open {H : Type} {enc : TypeId × Value → H} {W : World} {base : Nat} {v0 v1 : Value} {d0 d1 : DataW H} {p0 p1 : List MemPlace} {q : Prop}
    (a0 : Value.okWide Tryd.prog W .any base 36 v0) (a1 : Value.okWide Tryd.prog W .any base 48 v1)
    (h0 : DataW.Trod enc Tryd.prog W 0 (fun _ => true) true 36 v0 d0 p0) (h1 : DataW.Trod enc Tryd.prog W 0 (fun _ => true) true 48 v1 d1 p1)
    (hL : laidMetH Tryd.prog Rows.codeBytesRow.laid W) (_hq : q) :
    Calls Tryd.prog 6 #[v0, v1] W fun e w' => e = .returned (.bool true) ∧ Below W.heap.size W w' := by
  obtain ⟨A, n, cp, l, rfl, hr, hn⟩ := open_ins Tryd.underlying36 a0 h0
  obtain ⟨B, m, c, b, rfl, hr', hmc, hm, hb⟩ := open_octets a1 h1
  exact codeBytes_any _ _ _ _ _ _ _ _ _ (opTab_of_laid hL) hr hn hr' hmc hm hb
end Go.Proofs.YtecolkpnllikaaaDoor
