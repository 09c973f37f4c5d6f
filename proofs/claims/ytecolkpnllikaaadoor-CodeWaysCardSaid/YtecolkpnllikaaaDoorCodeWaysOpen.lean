/- What CodeWays is handed, opened. Condition: the row's own. -/
import Derived.Test.YtecolkpnllikaaaDoorCodeWays
import Derived.Test.YtecolkpnllikaaaDoorLaid
import Derived.Lib.SmallJoins
namespace Go.Proofs.YtecolkpnllikaaaDoor
open Go.ChangeShapes Go.WideShapes Go.ChangeAt Go.RowKit Go.Joins

theorem cellsI : Tryd.prog.cellsOf 23 = 4 := by kernel_rfl
set_option maxRecDepth 100000 in
theorem codeWays_open {H : Type} {enc : TypeId × Value → H} {W : World} {base : Nat} {v0 v1 v2 : Value} {d0 d1 d2 : DataW H} {p0 p1 p2 : List MemPlace} {q : Prop}
    (a0 : Value.okWide Tryd.prog W .any base 23 v0) (a1 : Value.okWide Tryd.prog W .any base 3 v1) (a2 : Value.okWide Tryd.prog W .any base 3 v2)
    (h0 : DataW.Trod enc Tryd.prog W 0 (fun _ => true) true 23 v0 d0 p0) (h1 : DataW.Trod enc Tryd.prog W 0 (fun _ => true) true 3 v1 d1 p1) (h2 : DataW.Trod enc Tryd.prog W 0 (fun _ => true) true 3 v2 d2 p2)
    (hL : laidMetH Tryd.prog Rows.codeWaysRow.laid W) (_hq : q) :
    Calls Tryd.prog 3 #[v0, v1, v2] W fun e w' => e = .returned (.bool true) ∧ Below W.heap.size W w' := by
  obtain ⟨c0, c1, c2, c3, y0, y1, y2, y3, m, rfl, rfl, rfl, g0, g1, g2, g3⟩ := open_agg4 Tryd.underlying23 (by kernel_rfl) cellsI a0 h0
  obtain ⟨x0, e0, rfl, _⟩ := DataW.trod_int Tryd.underlying3 g0
  obtain ⟨x1, e1, rfl, _⟩ := DataW.trod_int Tryd.underlying3 g1
  obtain ⟨x2, e2, rfl, _⟩ := DataW.trod_int Tryd.underlying3 g2
  obtain ⟨x3, e3, rfl, _⟩ := DataW.trod_int Tryd.underlying3 g3
  simp only [List.cons.injEq, and_true] at e0 e1 e2 e3
  subst e0 e1 e2 e3
  obtain ⟨at_, rfl, rfl, rfl, _⟩ := open_int Tryd.underlying3 a1 h1
  obtain ⟨op, rfl, rfl, rfl, _⟩ := open_int Tryd.underlying3 a2 h2
  exact ways_any _ _ _ _ _ _ _ (opTab_of_laid hL)
end Go.Proofs.YtecolkpnllikaaaDoor
