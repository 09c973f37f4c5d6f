/- What PurseThere is handed, opened. Condition: the row's own. -/
import Derived.Test.YtjiecnoplnaahaaPuTaOpen
import Derived.Test.YtjiecnoplnaahaaPuThA
namespace Go.Proofs.Ytjiecnoplnaahaa
open Go.ChangeShapes Go.WideShapes Go.ChangeAt Go.RowKit Go.Joins
variable {H : Type} {enc : TypeId × Value → H} {W : World} {base : Nat}
set_option maxRecDepth 100000 in
theorem purseThere_open {v0 v1 : Value} {d0 d1 : DataW H} {p0 p1 : List MemPlace} {q : Prop}
    (a0 : Value.okWide Try.prog W .any base 26 v0) (a1 : Value.okWide Try.prog W .any base 64 v1)
    (h0 : DataW.Trod enc Try.prog W 0 (fun _ => true) true 26 v0 d0 p0) (h1 : DataW.Trod enc Try.prog W 0 (fun _ => true) true 64 v1 d1 p1) (_hq : q) :
    Calls Try.prog 9 #[v0, v1] W fun e w' => e = .returned (.bool true) ∧ Below W.heap.size W w' := by
  obtain ⟨p, A, n, c, rfl, hp⟩ := open_purse a0 h0
  obtain ⟨L, m, cl, l, rfl, hr, hc, hl⟩ := open_octets a1 h1
  exact purseThere_any p A L n c m cl l W hp.rd hp.cap ⟨hp.ok, hp.oks⟩ hr hc hl
end Go.Proofs.Ytjiecnoplnaahaa
