/- One read of an entry as one step of a drawn region's head. Nothing of the program stands in it but its tables, so there is no condition. -/
import Derived.Test.YtebepgoaofhelaaNoB
import Derived.Test.YtebepgoaofhelaaTail
import Derived.StillTailTactics
namespace Go.Proofs.Ytebepgoaofhelaa
open Go.RowKit Go.Lib

theorem still_load {P : Program} {ops : Array Oper} {rest : List Oper} {o : Oper} {a : Act} {w : World} {Q : Act → Prop} (hg : o.guard = none) (x : Operand) (t : TypeId) (hop : o.op = Op.load t x)
    (X v : Value) (hx : a.eval x = X) (hrun : (Instr.loadAt t X).run P w = .ok v w) (h : wpStill P ops w Q rest (a.put o.dst v)) : wpStill P ops w Q (o :: rest) a := by
  have hw : Region.wanted o (yielded ops a.tmps) = true := by simp [Region.wanted, hg]
  refine wpStill_step (fun K hK => ?_)
  rw [if_pos hw]
  unfold Oper.still
  simp [execOp, hop, hx, hrun, Result.andThen, Oper.stillUpon]
  exact hK _ h
set_option maxRecDepth 100000 in
theorem load_en (w : World) (b : Nat) (e : En) (h : w.heap[b]? = some (.cells #[.int .u8 (e.key.x0 : Int), .int .u8 (e.key.x1 : Int), .int .u8 (e.key.x2 : Int), .int .u8 (e.key.x3 : Int), .int .u8 (e.key.x4 : Int), .int .u8 (e.key.x5 : Int), .int .u8 (e.key.x6 : Int), .int .u8 (e.key.x7 : Int), .int .u8 (e.msg.x0 : Int), .int .u8 (e.msg.x1 : Int), .int .u8 (e.msg.x2 : Int), .int .u8 (e.msg.x3 : Int), .int .u8 (e.msg.x4 : Int), .int .u8 (e.msg.x5 : Int), .int .u8 (e.msg.x6 : Int), .int .u8 (e.msg.x7 : Int)] 102 (0, 0))) : (Instr.loadAt 102 (.pointer (some ⟨b, 0, none⟩))).run Try.prog w = .ok (.agg #[.int .u8 (e.key.x0 : Int), .int .u8 (e.key.x1 : Int), .int .u8 (e.key.x2 : Int), .int .u8 (e.key.x3 : Int), .int .u8 (e.key.x4 : Int), .int .u8 (e.key.x5 : Int), .int .u8 (e.key.x6 : Int), .int .u8 (e.key.x7 : Int), .int .u8 (e.msg.x0 : Int), .int .u8 (e.msg.x1 : Int), .int .u8 (e.msg.x2 : Int), .int .u8 (e.msg.x3 : Int), .int .u8 (e.msg.x4 : Int), .int .u8 (e.msg.x5 : Int), .int .u8 (e.msg.x6 : Int), .int .u8 (e.msg.x7 : Int)]) w := by
  have x := block_cell h
  have x0 := x 0; have x1 := x 1; have x2 := x 2; have x3 := x 3; have x4 := x 4; have x5 := x 5; have x6 := x 6; have x7 := x 7; have x8 := x 8; have x9 := x 9; have x10 := x 10; have x11 := x 11; have x12 := x 12; have x13 := x 13; have x14 := x 14; have x15 := x 15
  simp at x0 x1 x2 x3 x4 x5 x6 x7 x8 x9 x10 x11 x12 x13 x14 x15
  clear x
  go_simp
end Go.Proofs.Ytebepgoaofhelaa
