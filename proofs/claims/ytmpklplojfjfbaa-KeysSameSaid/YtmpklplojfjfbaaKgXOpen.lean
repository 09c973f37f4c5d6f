/- What KeysSame is handed, opened. Condition: the row's own. -/
import Derived.Test.YtmpklplojfjfbaaKeOp
import Derived.Test.YtmpklplojfjfbaaKgX
namespace Go.Proofs.Ytmpklplojfjfbaa
open Go.ChangeShapes Go.WideShapes Go.ChangeAt Go.RowKit Go.Joins
set_option maxRecDepth 100000 in
theorem keysSame_open {H : Type} {enc : TypeId × Value → H} {W : World} {base : Nat} {v0 v1 v2 v3 v4 : Value} {d0 d1 d2 d3 d4 : DataW H} {p0 p1 p2 p3 p4 : List MemPlace} {q : Prop}
    (a0 : Value.okWide Try.prog W .any base 22 v0) (a1 : Value.okWide Try.prog W .any base 22 v1) (a2 : Value.okWide Try.prog W .any base 5 v2) (a3 : Value.okWide Try.prog W .any base 23 v3) (a4 : Value.okWide Try.prog W .any base 23 v4)
    (h0 : DataW.Trod enc Try.prog W 0 (fun _ => true) true 22 v0 d0 p0) (h1 : DataW.Trod enc Try.prog W 0 (fun _ => true) true 22 v1 d1 p1) (h2 : DataW.Trod enc Try.prog W 0 (fun _ => true) true 5 v2 d2 p2) (h3 : DataW.Trod enc Try.prog W 0 (fun _ => true) true 23 v3 d3 p3) (h4 : DataW.Trod enc Try.prog W 0 (fun _ => true) true 23 v4 d4 p4) (_hq : q) :
    Calls Try.prog 5 #[v0, v1, v2, v3, v4] W fun e w' => e = .returned (.bool true) ∧ Below W.heap.size W w' := by
  obtain ⟨a, rfl, ha⟩ := open_dig a0 h0
  obtain ⟨b, rfl, hb⟩ := open_dig a1 h1
  obtain ⟨h, rfl, hh⟩ := open_u8 a2 h2
  obtain ⟨A, n, c, l, rfl, hr, hok⟩ := open_digs Try.underlying23 a3 h3
  obtain ⟨A', n', c', l', rfl, hr', hok'⟩ := open_digs Try.underlying23 a4 h4
  exact ksame_any a b h A n c l A' n' c' l' W ha hb hh hr hok hr' hok'
end Go.Proofs.Ytmpklplojfjfbaa
