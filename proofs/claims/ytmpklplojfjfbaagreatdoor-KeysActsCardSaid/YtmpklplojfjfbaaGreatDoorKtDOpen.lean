/- What KeysActs is handed, opened. Condition: the row's own. -/
import Derived.Test.YtmpklplojfjfbaaGreatDoorKtD
namespace Go.Proofs.YtmpklplojfjfbaaGreatDoor
open Go.ChangeShapes Go.WideShapes Go.ChangeAt Go.RowKit Go.Joins Go.Deep
set_option maxRecDepth 100000 in
theorem keysActs_open {H : Type} {enc : TypeId × Value → H} {W : World} {base : Nat} {v0 v1 v2 : Value} {d0 d1 d2 : DataW H} {p0 p1 p2 : List MemPlace} {q q2 : Prop}
    (a0 : Value.okWide Tryz.prog W .any base 22 v0) (a1 : Value.okWide Tryz.prog W .any base 5 v1) (a2 : Value.okWide Tryz.prog W .any base 41 v2)
    (h0 : DataW.Trod enc Tryz.prog W 0 (fun _ => true) true 22 v0 d0 p0) (h1 : DataW.Trod enc Tryz.prog W 0 (fun _ => true) true 5 v1 d1 p1) (h2 : DataW.Trod enc Tryz.prog W 0 (fun _ => true) true 41 v2 d2 p2) (_hq : q) (_hq2 : q2) :
    Calls Tryz.prog 4 #[v0, v1, v2] W fun e w' => e = .returned (.bool true) ∧ Below W.heap.size W w' := by
  obtain ⟨s, rfl, hs⟩ := open_dig a0 h0
  obtain ⟨h, rfl, hh⟩ := open_u8 a1 h1
  obtain ⟨A, n, c, l, rfl, hr, hl⟩ := open_acts a2 h2
  exact kacts_any s h A n c l W hs hh hr hl
end Go.Proofs.YtmpklplojfjfbaaGreatDoor
