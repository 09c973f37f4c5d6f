/- What VirtualTimes is handed, opened. Condition: the row's own. -/
import Derived.Test.YthhiookcknnmdaaGreatJoinVaa
import Derived.Test.YthhiookcknnmdaaGreatVqT
namespace Go.Proofs.YthhiookcknnmdaaGreat
open Go.ChangeShapes Go.WideShapes Go.ChangeAt Go.RowKit Go.Joins Go.Deep
set_option maxRecDepth 100000 in
theorem virtualTimes_open {H : Type} {enc : TypeId × Value → H} {W : World} {base : Nat} {v0 v1 v2 v3 : Value} {d0 d1 d2 d3 : DataW H} {p0 p1 p2 p3 : List MemPlace} {q : Prop}
  (a0 : Value.okWide Tryz.prog W .any base 5 v0) (a1 : Value.okWide Tryz.prog W .any base 23 v1) (a2 : Value.okWide Tryz.prog W .any base 24 v2) (a3 : Value.okWide Tryz.prog W .any base 22 v3)
  (h0 : DataW.Trod enc Tryz.prog W 0 (fun _ => true) true 5 v0 d0 p0) (h1 : DataW.Trod enc Tryz.prog W 0 (fun _ => true) true 23 v1 d1 p1) (h2 : DataW.Trod enc Tryz.prog W 0 (fun _ => true) true 24 v2 d2 p2) (h3 : DataW.Trod enc Tryz.prog W 0 (fun _ => true) true 22 v3 d3 p3) (_hq : q) :
  Calls Tryz.prog 3 #[v0, v1, v2, v3] W fun e w' => e = .returned (.bool true) ∧ Below W.heap.size W w' := by
 obtain ⟨pa, rfl, hp⟩ := open_u8V a0 h0
 obtain ⟨a, b, rfl, ha, hb⟩ := open_two16 a1 h1
 obtain ⟨l, rfl, hl⟩ := open_u32V a2 h2
 obtain ⟨win, rfl, hw⟩ := open_u16V a3 h3
 exact vtimes_any pa a b l win W hp ha hb hl hw
end Go.Proofs.YthhiookcknnmdaaGreat
