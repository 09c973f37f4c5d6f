/- Operations of a region in one order, each by a law of its own. Nothing of the program stands in it, so there is no condition. -/
import Derived.Test.YthjpaclcoipocaaDoorKhG
namespace Go.Proofs.YthjpaclcoipocaaDoor
section
variable {P : Program} {ops : Array Oper} {rest : List Oper} {o : Oper} {a : Act} {w : World} {Q : Exit → Act → World → Prop}
theorem wpList_val (V : Value) (hw : Region.wanted o (yielded ops a.tmps) = true) (hrun : (execOp a.eval o).run P w = .ok (.value V) w) (h : wpList P ops Q rest (a.put o.dst V) w) : wpList P ops Q (o :: rest) a w := by
  unfold wpList
  rw [if_pos hw]
  left
  unfold Oper.wp
  rw [hrun]
  exact h
end
end Go.Proofs.YthjpaclcoipocaaDoor
