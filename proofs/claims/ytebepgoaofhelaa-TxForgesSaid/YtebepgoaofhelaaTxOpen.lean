/- A transaction that comes in, opened. Condition: the row's own. -/
import Derived.Test.YtebepgoaofhelaaOpenB
import Derived.Test.YtebepgoaofhelaaTxCut
namespace Go.Proofs.Ytebepgoaofhelaa
open Go.ChangeShapes Go.WideShapes Go.ChangeAt Go.RowKit Go.Joins Go.Deep

section
variable {H : Type} {enc : TypeId × Value → H} {W : World} {base : Nat}
theorem cellsInt : Try.prog.cellsOf 3 = 1 := by kernel_rfl
theorem cellsBytes : Try.prog.cellsOf 24 = 1 := by kernel_rfl
theorem cellsDig : Try.prog.cellsOf 23 = 8 := by kernel_rfl
theorem cellsD : Try.prog.cellsOf 22 = 8 := by kernel_rfl
theorem cellsTx : Try.prog.cellsOf 26 = 13 := by kernel_rfl
theorem okWide_arr {P : Program} {w : World} {r : Reach} {b t e : TypeId} {n : Nat} {v : Value} (ht : P.underlying t = some (.array n e)) (h : Value.okWide P w r b t v) : ∃ cs, v = .agg cs ∧ cs.size = P.cellsOf t := by
  simp only [Value.okWide, ht] at h
  obtain ⟨cs, h1, h2, _⟩ := h
  exact ⟨cs, h1, h2⟩
set_option maxRecDepth 100000 in
theorem open_dig {v : Value} {d : DataW H} {p : List MemPlace} (a0 : Value.okWide Try.prog W .any base 22 v) (h0 : DataW.Trod enc Try.prog W 0 (fun _ => true) true 22 v d p) : ∃ x : D8, v = .agg #[.int .u8 (x.x0 : Int), .int .u8 (x.x1 : Int), .int .u8 (x.x2 : Int), .int .u8 (x.x3 : Int), .int .u8 (x.x4 : Int), .int .u8 (x.x5 : Int), .int .u8 (x.x6 : Int), .int .u8 (x.x7 : Int)] ∧ x.ok := by
  obtain ⟨cs, rfl, _⟩ : ∃ cs, v = .agg cs ∧ cs.size = Try.prog.cellsOf 22 := okWide_arr Try.underlying22 a0
  obtain ⟨fuel, hf⟩ := h0
  obtain ⟨x, hx, ok⟩ := d8_of_cells Try.underlying22 cellsD hf
  obtain ⟨l⟩ := cs
  simp only [Value.cells] at hx
  subst hx
  exact ⟨x, rfl, ok⟩
set_option maxRecDepth 100000 in
theorem open_tx {v : Value} {d : DataW H} {p : List MemPlace} (a0 : Value.okWide Try.prog W .any base 26 v) (h0 : DataW.Trod enc Try.prog W 0 (fun _ => true) true 26 v d p) : ∃ t : TxV, v = .agg #[.int .u8 (t.d.x0 : Int), .int .u8 (t.d.x1 : Int), .int .u8 (t.d.x2 : Int), .int .u8 (t.d.x3 : Int), .int .u8 (t.d.x4 : Int), .int .u8 (t.d.x5 : Int), .int .u8 (t.d.x6 : Int), .int .u8 (t.d.x7 : Int), .int .i64 t.no, .int .i64 t.fe, .int .i64 t.ki, .slice t.A t.n t.c, .slice t.A' t.n' t.c'] ∧ t.In W W.heap.size := by
  obtain ⟨cs, rfl, _⟩ := okWide_struct Try.underlying26 a0
  obtain ⟨fuel, hf⟩ := h0
  obtain ⟨xs, n, _, _, hl, hxl, hg⟩ := DataW.trod_struct Try.underlying26 hf
  rw [cellsTx] at hl
  obtain ⟨l⟩ := cs
  simp only [Value.cells] at hl hg
  have g0 : DataW.trod enc Try.prog W 0 (fun _ => true) true n 23 ((l.drop 0).take (Try.prog.cellsOf 23)) = xs[0]? := hg 0 _ rfl
  have g1 : DataW.trod enc Try.prog W 0 (fun _ => true) true n 3 ((l.drop 8).take (Try.prog.cellsOf 3)) = xs[1]? := hg 1 _ rfl
  have g2 : DataW.trod enc Try.prog W 0 (fun _ => true) true n 3 ((l.drop 9).take (Try.prog.cellsOf 3)) = xs[2]? := hg 2 _ rfl
  have g3 : DataW.trod enc Try.prog W 0 (fun _ => true) true n 3 ((l.drop 10).take (Try.prog.cellsOf 3)) = xs[3]? := hg 3 _ rfl
  have g4 : DataW.trod enc Try.prog W 0 (fun _ => true) true n 24 ((l.drop 11).take (Try.prog.cellsOf 24)) = xs[4]? := hg 4 _ rfl
  have g5 : DataW.trod enc Try.prog W 0 (fun _ => true) true n 24 ((l.drop 12).take (Try.prog.cellsOf 24)) = xs[5]? := hg 5 _ rfl
  rw [cellsDig] at g0
  rw [cellsInt] at g1 g2 g3
  rw [cellsBytes] at g4 g5
  simp at hxl
  rw [List.getElem?_eq_getElem (by omega)] at g0 g1 g2 g3 g4 g5
  obtain ⟨x, e0, ok⟩ := d8_of_cells Try.underlying23 cellsDig g0
  obtain ⟨no, e1, _, _⟩ := DataW.trod_int Try.underlying3 g1
  obtain ⟨fe, e2, _, _⟩ := DataW.trod_int Try.underlying3 g2
  obtain ⟨ki, e3, _, _⟩ := DataW.trod_int Try.underlying3 g3
  obtain ⟨A, m, c, bo, e4, r4, c4, m4, b4⟩ := bytes_of_cells Try.underlying24 g4
  obtain ⟨A', m', c', si, e5, r5, c5, m5, b5⟩ := bytes_of_cells Try.underlying24 g5
  refine ⟨⟨x, no, fe, ki, A, m, c, A', m', c', bo, si⟩, ?_, ⟨ok, r4, r5, c4, c5, b4, b5, m4, m5⟩⟩
  match l, hl with
  | [c0, c1, c2, c3, c4, c5, c6, c7, c8, c9, c10, c11, c12], _ =>
    simp at e0 e1 e2 e3 e4 e5
    simp [e0, e1, e2, e3, e4, e5]
end
end Go.Proofs.Ytebepgoaofhelaa
