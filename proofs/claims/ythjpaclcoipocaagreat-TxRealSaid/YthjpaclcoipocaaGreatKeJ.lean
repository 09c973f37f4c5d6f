/- The walk of a ring's Same. Condition: none. -/
import Derived.Test.YthjpaclcoipocaaGreatJoinF
import Derived.Test.YthjpaclcoipocaaGreatInv
namespace Go.Proofs.YthjpaclcoipocaaGreat
open Go.RowKit Go.Lib



theorem exec_binD {P : Program} {o : Oper} {ev : Operand → Value} {op : BinOp} {t t' : TypeId} {x y : Operand} {w : World} {V W R : Value} (ho : o.op = .binOp op t x y t') (hx : ev x = V) (hy : ev y = W) (hg : (eqGuard op t x y V W).run P w = .ok () w) (hb : (binOp op t V W).run P w = .ok R w) : (execOp ev o).run P w = .ok (.value R) w := by
  simp [execOp, ho, hx, hy, hg, hb, Result.andThen]
theorem load_ring {w : World} {b : Nat} {s : D8} {h : Nat} {pt v : Value} {mb : Nat} (x : w.heap[b]? = some (.cells (ringC s h pt v mb) 68 (0, 0))) : (Instr.loadAt 30 (.pointer (some ⟨b, 0, none⟩))).run Tryz.prog w = .ok (.agg #[.int .u8 (s.x0 : Int), .int .u8 (s.x1 : Int), .int .u8 (s.x2 : Int), .int .u8 (s.x3 : Int), .int .u8 (s.x4 : Int), .int .u8 (s.x5 : Int), .int .u8 (s.x6 : Int), .int .u8 (s.x7 : Int)]) w := by
  obtain ⟨yf, y0, y1, y2, y3, y4, y5, y6, y7, y8, y9, y10, y11⟩ := freeR x
  have hl := block_lt x
  clear y8 y9 y10 y11 yf x
  go_simp
def sameR (a b : RingM) : Bool := sameD a.secret b.secret && decide (a.h = b.h) && decide (a.led = b.led)
end Go.Proofs.YthjpaclcoipocaaGreat
