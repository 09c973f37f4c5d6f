/- What PurseChecks is handed, opened. Condition: the row's own. -/
import Derived.Test.YtjiecnoplnaahaaPuOpen
import Derived.Test.YtjiecnoplnaahaaPuCh
namespace Go.Proofs.Ytjiecnoplnaahaa
open Go.ChangeShapes Go.WideShapes Go.ChangeAt Go.RowKit Go.Joins
set_option maxRecDepth 100000 in
theorem purseChecks_open {H : Type} {enc : TypeId × Value → H} {W : World} {base : Nat} {v0 v1 v2 : Value} {d0 d1 d2 : DataW H} {p0 p1 p2 : List MemPlace} {q : Prop}
    (a0 : Value.okWide Try.prog W .any base 26 v0) (a1 : Value.okWide Try.prog W .any base 26 v1) (a2 : Value.okWide Try.prog W .any base 3 v2)
    (h0 : DataW.Trod enc Try.prog W 0 (fun _ => true) true 26 v0 d0 p0) (h1 : DataW.Trod enc Try.prog W 0 (fun _ => true) true 26 v1 d1 p1) (h2 : DataW.Trod enc Try.prog W 0 (fun _ => true) true 3 v2 d2 p2) (_hq : q) :
    Calls Try.prog 7 #[v0, v1, v2] W fun e w' => e = .returned (.bool true) ∧ Below W.heap.size W w' := by
  obtain ⟨p, A, n, c, rfl, hp⟩ := open_purse a0 h0
  obtain ⟨o, A', n', c', rfl, ho⟩ := open_purse a1 h1
  obtain ⟨now, rfl, rfl, rfl, _⟩ := open_int Try.underlying3 a2 h2
  exact purseChecks_any p o A A' n c n' c' now W hp.rd hp.cap ho.rd ho.cap
end Go.Proofs.Ytjiecnoplnaahaa
