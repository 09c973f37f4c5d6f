/- What PurseNewer is handed, opened. Condition: the row's own. -/
import Derived.Test.YthjpaclcoipocaaPuOpen
import Derived.Test.YthjpaclcoipocaaPvB
namespace Go.Proofs.Ythjpaclcoipocaa
open Go.ChangeShapes Go.WideShapes Go.ChangeAt Go.RowKit Go.Joins

section
variable {H : Type} {enc : TypeId × Value → H} {W : World} {base : Nat}
theorem cellsBoolV : Try.prog.cellsOf 4 = 1 := by kernel_rfl
theorem cellsTwoB : Try.prog.cellsOf 27 = 2 := by kernel_rfl
theorem cellsSigns : Try.prog.cellsOf 29 = 5 := by kernel_rfl
theorem bools_of_cells {n : Nat} {spare : Nat → Bool} {held : Bool} {cs : List Value} {x : DataW H × List MemPlace} (h : DataW.trod enc Try.prog W base spare held n 27 cs = some x) : ∃ a b : Bool, cs = [.bool a, .bool b] := by
  obtain ⟨xs, m, _, _, hl, hx, hi⟩ := DataW.trod_array Try.underlying27 h
  rw [cellsTwoB] at hl
  rw [cellsBoolV] at hi
  have get : ∀ i, i < 2 → ∃ b : Bool, (cs.drop (i * 1)).take 1 = [.bool b] := fun i hi8 => by
    have h1 := hi i hi8
    rw [List.getElem?_eq_getElem (by omega)] at h1
    obtain ⟨b, e, _⟩ := DataW.trod_bool Try.underlying4 h1
    exact ⟨b, e⟩
  obtain ⟨b0, e0⟩ := get 0 (by omega)
  obtain ⟨b1, e1⟩ := get 1 (by omega)
  match cs, hl with
  | [c0, c1], _ =>
    simp at e0 e1
    exact ⟨b0, b1, by simp [e0, e1]⟩
set_option maxRecDepth 100000 in
theorem open_signs {v : Value} {d : DataW H} {p : List MemPlace} (a0 : Value.okWide Try.prog W .any base 29 v) (h0 : DataW.Trod enc Try.prog W 0 (fun _ => true) true 29 v d p) :
    ∃ n0 n1 o0 o1 sw : Bool, v = .agg #[.bool n0, .bool n1, .bool o0, .bool o1, .bool sw] := by
  obtain ⟨cs, rfl, _⟩ := okWide_struct Try.underlying29 a0
  obtain ⟨fuel, hf⟩ := h0
  obtain ⟨xs, n, _, _, hl, hxl, hg⟩ := DataW.trod_struct Try.underlying29 hf
  rw [cellsSigns] at hl
  obtain ⟨l⟩ := cs
  simp only [Value.cells] at hl hg
  have g0 : DataW.trod enc Try.prog W 0 (fun _ => true) true n 27 ((l.drop 0).take (Try.prog.cellsOf 27)) = xs[0]? := hg 0 _ rfl
  have g1 : DataW.trod enc Try.prog W 0 (fun _ => true) true n 27 ((l.drop 2).take (Try.prog.cellsOf 27)) = xs[1]? := hg 1 _ rfl
  have g2 : DataW.trod enc Try.prog W 0 (fun _ => true) true n 4 ((l.drop 4).take (Try.prog.cellsOf 4)) = xs[2]? := hg 2 _ rfl
  rw [cellsTwoB] at g0 g1
  rw [cellsBoolV] at g2
  simp at hxl
  rw [List.getElem?_eq_getElem (by omega)] at g0 g1 g2
  obtain ⟨n0, n1, e0⟩ := bools_of_cells g0
  obtain ⟨o0, o1, e1⟩ := bools_of_cells g1
  obtain ⟨sw, e2, _⟩ := DataW.trod_bool Try.underlying4 g2
  refine ⟨n0, n1, o0, o1, sw, ?_⟩
  match l, hl with
  | [c0, c1, c2, c3, c4], _ =>
    simp at e0 e1 e2
    simp [e0, e1, e2]
end
set_option maxRecDepth 100000 in
theorem purseNewer_open {H : Type} {enc : TypeId × Value → H} {W : World} {base : Nat} {v0 v1 v2 : Value} {d0 d1 d2 : DataW H} {p0 p1 p2 : List MemPlace} {q : Prop}
    (a0 : Value.okWide Try.prog W .any base 26 v0) (a1 : Value.okWide Try.prog W .any base 26 v1) (a2 : Value.okWide Try.prog W .any base 29 v2)
    (h0 : DataW.Trod enc Try.prog W 0 (fun _ => true) true 26 v0 d0 p0) (h1 : DataW.Trod enc Try.prog W 0 (fun _ => true) true 26 v1 d1 p1) (h2 : DataW.Trod enc Try.prog W 0 (fun _ => true) true 29 v2 d2 p2) (_hq : q) :
    Calls Try.prog 3 #[v0, v1, v2] W fun e w' => e = .returned (.bool true) ∧ Below W.heap.size W w' := by
  obtain ⟨X, A, n, c, rfl, hX⟩ := open_purse a0 h0
  obtain ⟨Y, A', n', c', rfl, hY⟩ := open_purse a1 h1
  obtain ⟨n0, n1, o0, o1, sw, rfl⟩ := open_signs a2 h2
  exact pnewer_any X Y A A' n c n' c' n0 n1 o0 o1 sw W hX.rd hX.cap hY.rd hY.cap ⟨hX.ok, hX.oks⟩ ⟨hY.ok, hY.oks⟩
end Go.Proofs.Ythjpaclcoipocaa
