/- What PurseBack is handed, opened. Condition: the row's own. -/
import Derived.Test.YtjiecnoplnaahaaPuOpen
import Derived.Test.YtjiecnoplnaahaaPuU
namespace Go.Proofs.Ytjiecnoplnaahaa
open Go.ChangeShapes Go.WideShapes Go.ChangeAt Go.RowKit Go.Joins


set_option maxRecDepth 100000 in
theorem open_deed {H : Type} {enc : TypeId × Value → H} {W : World} {base : Nat} {v : Value} {d : DataW H} {p : List MemPlace} (a0 : Value.okWide Try.prog W .any base 43 v) (h0 : DataW.Trod enc Try.prog W 0 (fun _ => true) true 43 v d p) :
    ∃ x : Dd, v = .agg #[.int .u8 (x.w : Int), .int .u8 (x.nm.x0 : Int), .int .u8 (x.nm.x1 : Int), .int .u8 (x.nm.x2 : Int), .int .u8 (x.nm.x3 : Int), .int .u8 (x.nm.x4 : Int), .int .u8 (x.nm.x5 : Int), .int .u8 (x.nm.x6 : Int), .int .u8 (x.nm.x7 : Int), .int .i64 x.am, .int .i64 x.fr, .int .i64 x.un] ∧ x.w < 256 := by
  obtain ⟨cs, rfl, _⟩ := okWide_struct Try.underlying43 a0
  obtain ⟨fuel, hf⟩ := h0
  obtain ⟨x, hx, hw⟩ := dd_of_cells hf
  obtain ⟨l⟩ := cs
  simp only [Value.cells] at hx
  subst hx
  exact ⟨x, rfl, hw⟩
set_option maxRecDepth 100000 in
theorem purseBack_open {H : Type} {enc : TypeId × Value → H} {W : World} {base : Nat} {v0 v1 v2 : Value} {d0 d1 d2 : DataW H} {p0 p1 p2 : List MemPlace} {q : Prop}
    (a0 : Value.okWide Try.prog W .any base 26 v0) (a1 : Value.okWide Try.prog W .any base 43 v1) (a2 : Value.okWide Try.prog W .any base 43 v2)
    (h0 : DataW.Trod enc Try.prog W 0 (fun _ => true) true 26 v0 d0 p0) (h1 : DataW.Trod enc Try.prog W 0 (fun _ => true) true 43 v1 d1 p1) (h2 : DataW.Trod enc Try.prog W 0 (fun _ => true) true 43 v2 d2 p2) (_hq : q) :
    Calls Try.prog 6 #[v0, v1, v2] W fun e w' => e = .returned (.bool true) ∧ Below W.heap.size W w' := by
  obtain ⟨p, A, n, c, rfl, hp⟩ := open_purse a0 h0
  obtain ⟨x, rfl, _⟩ := open_deed a1 h1
  obtain ⟨o, rfl, hw⟩ := open_deed a2 h2
  exact purseBack_any p A n c x o W hp.rd hp.cap hw
end Go.Proofs.Ytjiecnoplnaahaa
