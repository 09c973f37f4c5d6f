/- What PurseActs is handed, opened. Condition: the row's own. -/
import Derived.Test.YtjiecnoplnaahaaPuOpen
import Derived.Test.YtjiecnoplnaahaaPuAct
namespace Go.Proofs.Ytjiecnoplnaahaa
open Go.ChangeShapes Go.WideShapes Go.ChangeAt Go.RowKit Go.Joins
set_option maxRecDepth 100000 in
theorem purseActs_open {H : Type} {enc : TypeId × Value → H} {W : World} {base : Nat} {v0 v1 : Value} {d0 d1 : DataW H} {p0 p1 : List MemPlace} {q : Prop}
    (a0 : Value.okWide Try.prog W .any base 26 v0) (a1 : Value.okWide Try.prog W .any base 38 v1)
    (h0 : DataW.Trod enc Try.prog W 0 (fun _ => true) true 26 v0 d0 p0) (h1 : DataW.Trod enc Try.prog W 0 (fun _ => true) true 38 v1 d1 p1) (_hq : q) :
    Calls Try.prog 4 #[v0, v1] W fun e w' => e = .returned (.bool true) ∧ Below W.heap.size W w' := by
  obtain ⟨p, A, n, c, rfl, hp⟩ := open_purse a0 h0
  obtain ⟨L, m, cl, l, rfl, hd, hw⟩ := open_deeds a1 h1
  exact purseActs_any p A n c L m cl l W hp.rd hp.cap hd hw
end Go.Proofs.Ytjiecnoplnaahaa
