/- Digests compared. Nothing of the program stands in it but its tables, so there is no condition. -/
import Derived.Test.YthhiookcknnmdaaGreatProg
import Derived.Test.YthhiookcknnmdaaGreatJoinX
import Derived.WalkKit
import Derived.DeepKeys
import Derived.Laws.StructEq
namespace Go.Proofs.YthhiookcknnmdaaGreat
open Go.RowKit

theorem run_part_u8 {P : Program} {e : TypeId} (ha : ∀ w, (isAgg e).run P w = .ok false w) (cs : Array Value) (off : Nat) (v : Value) (w : World) (h : cs[off]? = some v) : (part e cs off).run P w = .ok v w := by
 simp [part, ha, h]
theorem eqItems_u8 {P : Program} {e : TypeId} {k : IntKind} (d : Nat) (ha : ∀ w, (isAgg e).run P w = .ok false w) (he : P.underlying e = some (.int k)) (xs ys : Array Value) (w : World) :
  ∀ (is : List Nat) (la lb : List Int), is.length = la.length → is.length = lb.length → (∀ j, j < is.length → xs[is.getD j 0 * 1]? = some (.int k (la.getD j 0))) → (∀ j, j < is.length → ys[is.getD j 0 * 1]? = some (.int k (lb.getD j 0))) →
   (Op.eqItems (d + 1) e 1 xs ys is).run P w = .ok (eqI la lb) w := by
 intro is
 induction is with
 | nil => intro la lb h1 h2 _ _; cases la <;> cases lb <;> simp_all [Op.eqItems, eqI]
 | cons i is ih =>
  intro la lb h1 h2 hx hy
  cases la with
  | nil => simp at h1
  | cons a la =>
   cases lb with
   | nil => simp at h2
   | cons b lb =>
    have e1 := run_part_u8 (P := P) ha xs (i * 1) (.int k a) w (by simpa using hx 0 (by simp))
    have e2 := run_part_u8 (P := P) ha ys (i * 1) (.int k b) w (by simpa using hy 0 (by simp))
    have e3 := ih la lb (by simpa using h1) (by simpa using h2) (fun j hj => by simpa using hx (j + 1) (by simpa using hj)) (fun j hj => by simpa using hy (j + 1) (by simpa using hj))
    simp only [Op.eqItems, Sem.run_bind, e1, e2, Result.andThen_ok, run_equalIn_int w d e k k a b he]
    rw [eqI_cons]
    by_cases h : a = b
    ·simp [h, e3]
    ·have hb : (a == b) = false := by simpa using h
     simp [hb]
theorem eqArr {P : Program} {t e : TypeId} {k : IntKind} {n : Nat} {i : TypeInfo} (hu : P.underlying t = some (.array n e)) (hi : P.info? e = some i) (hc : P.cellsOf e = 1) (ha : ∀ w, (isAgg e).run P w = .ok false w) (he : P.underlying e = some (.int k))
  (la lb : List Int) (hla : la.length = n) (hlb : lb.length = n) (d : Nat) (w : World) :
  (Op.equalIn (d + 2) t (.agg (la.map (Value.int k)).toArray) (.agg (lb.map (Value.int k)).toArray)).run P w = .ok (eqI la lb) w := by
 rw [show d + 2 = (d + 1) + 1 from rfl, run_equalIn_array w (d + 1) _ _ hu hi, hc]
 refine eqItems_u8 d ha he _ _ w (List.range n) la lb (by simp [hla]) (by simp [hlb]) (fun j hj => ?_) (fun j hj => ?_)
 ·simp at hj
  simp [List.getD_eq_getElem?_getD, hj, hla]
 ·simp at hj
  simp [List.getD_eq_getElem?_getD, hj, hlb]
theorem isAgg_u8 : ∀ w, (isAgg 5).run Tryz.prog w = .ok false w := fun w => by kernel_rfl
theorem info_u8some : ∃ i, Tryz.prog.info? 5 = some i := info_of_underlying Tryz.underlying5
theorem cells_u8 : Tryz.prog.cellsOf 5 = 1 := by kernel_rfl
theorem eqIn_dig (x0 x1 x2 x3 x4 x5 x6 x7 y0 y1 y2 y3 y4 y5 y6 y7 : Int) (d : Nat) (w : World) :
  (Op.equalIn (d + 2) 27 (.agg #[.int .u8 x0, .int .u8 x1, .int .u8 x2, .int .u8 x3, .int .u8 x4, .int .u8 x5, .int .u8 x6, .int .u8 x7]) (.agg #[.int .u8 y0, .int .u8 y1, .int .u8 y2, .int .u8 y3, .int .u8 y4, .int .u8 y5, .int .u8 y6, .int .u8 y7])).run Tryz.prog w = .ok (eqI [x0, x1, x2, x3, x4, x5, x6, x7] [y0, y1, y2, y3, y4, y5, y6, y7]) w := by
 obtain ⟨i, hi⟩ := info_u8some
 exact eqArr Tryz.underlying27 hi cells_u8 isAgg_u8 Tryz.underlying5 [x0, x1, x2, x3, x4, x5, x6, x7] [y0, y1, y2, y3, y4, y5, y6, y7] rfl rfl d w
theorem eql_dig (x0 x1 x2 x3 x4 x5 x6 x7 y0 y1 y2 y3 y4 y5 y6 y7 : Int) (w : World) :
  (binOp .eql 27 (.agg #[.int .u8 x0, .int .u8 x1, .int .u8 x2, .int .u8 x3, .int .u8 x4, .int .u8 x5, .int .u8 x6, .int .u8 x7]) (.agg #[.int .u8 y0, .int .u8 y1, .int .u8 y2, .int .u8 y3, .int .u8 y4, .int .u8 y5, .int .u8 y6, .int .u8 y7])).run Tryz.prog w = .ok (.bool (eqI [x0, x1, x2, x3, x4, x5, x6, x7] [y0, y1, y2, y3, y4, y5, y6, y7])) w := by
 rw [run_eql_struct, show (10000 : Nat) = 9998 + 2 from rfl, eqIn_dig]; rfl
theorem neq_dig (x0 x1 x2 x3 x4 x5 x6 x7 y0 y1 y2 y3 y4 y5 y6 y7 : Int) (w : World) :
  (binOp .neq 27 (.agg #[.int .u8 x0, .int .u8 x1, .int .u8 x2, .int .u8 x3, .int .u8 x4, .int .u8 x5, .int .u8 x6, .int .u8 x7]) (.agg #[.int .u8 y0, .int .u8 y1, .int .u8 y2, .int .u8 y3, .int .u8 y4, .int .u8 y5, .int .u8 y6, .int .u8 y7])).run Tryz.prog w = .ok (.bool (!eqI [x0, x1, x2, x3, x4, x5, x6, x7] [y0, y1, y2, y3, y4, y5, y6, y7])) w := by
 rw [run_neq_struct, show (10000 : Nat) = 9998 + 2 from rfl, eqIn_dig]; rfl
theorem eqIn_digR (x0 x1 x2 x3 x4 x5 x6 x7 y0 y1 y2 y3 y4 y5 y6 y7 : Int) (d : Nat) (w : World) :
  (Op.equalIn (d + 2) 26 (.agg #[.int .u8 x0, .int .u8 x1, .int .u8 x2, .int .u8 x3, .int .u8 x4, .int .u8 x5, .int .u8 x6, .int .u8 x7]) (.agg #[.int .u8 y0, .int .u8 y1, .int .u8 y2, .int .u8 y3, .int .u8 y4, .int .u8 y5, .int .u8 y6, .int .u8 y7])).run Tryz.prog w = .ok (eqI [x0, x1, x2, x3, x4, x5, x6, x7] [y0, y1, y2, y3, y4, y5, y6, y7]) w := by
 obtain ⟨i, hi⟩ := info_u8some
 exact eqArr Tryz.underlying26 hi cells_u8 isAgg_u8 Tryz.underlying5 [x0, x1, x2, x3, x4, x5, x6, x7] [y0, y1, y2, y3, y4, y5, y6, y7] rfl rfl d w
theorem eql_digR (x0 x1 x2 x3 x4 x5 x6 x7 y0 y1 y2 y3 y4 y5 y6 y7 : Int) (w : World) :
  (binOp .eql 26 (.agg #[.int .u8 x0, .int .u8 x1, .int .u8 x2, .int .u8 x3, .int .u8 x4, .int .u8 x5, .int .u8 x6, .int .u8 x7]) (.agg #[.int .u8 y0, .int .u8 y1, .int .u8 y2, .int .u8 y3, .int .u8 y4, .int .u8 y5, .int .u8 y6, .int .u8 y7])).run Tryz.prog w = .ok (.bool (eqI [x0, x1, x2, x3, x4, x5, x6, x7] [y0, y1, y2, y3, y4, y5, y6, y7])) w := by
 rw [run_eql_struct, show (10000 : Nat) = 9998 + 2 from rfl, eqIn_digR]; rfl
theorem neq_digR (x0 x1 x2 x3 x4 x5 x6 x7 y0 y1 y2 y3 y4 y5 y6 y7 : Int) (w : World) :
  (binOp .neq 26 (.agg #[.int .u8 x0, .int .u8 x1, .int .u8 x2, .int .u8 x3, .int .u8 x4, .int .u8 x5, .int .u8 x6, .int .u8 x7]) (.agg #[.int .u8 y0, .int .u8 y1, .int .u8 y2, .int .u8 y3, .int .u8 y4, .int .u8 y5, .int .u8 y6, .int .u8 y7])).run Tryz.prog w = .ok (.bool (!eqI [x0, x1, x2, x3, x4, x5, x6, x7] [y0, y1, y2, y3, y4, y5, y6, y7])) w := by
 rw [run_neq_struct, show (10000 : Nat) = 9998 + 2 from rfl, eqIn_digR]; rfl
end Go.Proofs.YthhiookcknnmdaaGreat
