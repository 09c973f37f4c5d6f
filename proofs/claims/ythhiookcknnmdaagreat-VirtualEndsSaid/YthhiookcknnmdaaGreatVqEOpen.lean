/- What VirtualEnds is handed, opened. Condition: the row's own. -/
import Derived.Test.YthhiookcknnmdaaGreatJoinUba
import Derived.Test.YthhiookcknnmdaaGreatVqE
import Derived.Test.YthhiookcknnmdaaGreatVpY
namespace Go.Proofs.YthhiookcknnmdaaGreat
open Go.ChangeShapes Go.WideShapes Go.ChangeAt Go.RowKit Go.Joins Go.Deep
set_option maxRecDepth 100000 in
theorem virtualEnds_open {H : Type} {enc : TypeId × Value → H} {W : World} {base : Nat} {v0 v1 v2 v3 v4 : Value} {d0 d1 d2 d3 d4 : DataW H} {p0 p1 p2 p3 p4 : List MemPlace} {q : Prop}
  (a0 : Value.okWide Tryz.prog W .any base 5 v0) (a1 : Value.okWide Tryz.prog W .any base 45 v1) (a2 : Value.okWide Tryz.prog W .any base 46 v2) (a3 : Value.okWide Tryz.prog W .any base 22 v3) (a4 : Value.okWide Tryz.prog W .any base 5 v4)
  (h0 : DataW.Trod enc Tryz.prog W 0 (fun _ => true) true 5 v0 d0 p0) (h1 : DataW.Trod enc Tryz.prog W 0 (fun _ => true) true 45 v1 d1 p1) (h2 : DataW.Trod enc Tryz.prog W 0 (fun _ => true) true 46 v2 d2 p2) (h3 : DataW.Trod enc Tryz.prog W 0 (fun _ => true) true 22 v3 d3 p3) (h4 : DataW.Trod enc Tryz.prog W 0 (fun _ => true) true 5 v4 d4 p4) (_hq : q) :
  Calls Tryz.prog 4 #[v0, v1, v2, v3, v4] W fun e w' => e = .returned (.bool true) ∧ Below W.heap.size W w' := by
 obtain ⟨hops, rfl, hh⟩ := open_u8V a0 h0
 obtain ⟨a, b, rfl, ha, hb⟩ := open_two8 a1 h1
 obtain ⟨Ah, nh, ch, hv, rfl, hr, hg⟩ := open_octetsW a2 h2
 obtain ⟨pays, rfl, hp⟩ := open_u16V a3 h3
 obtain ⟨turn, rfl, ht⟩ := open_u8V a4 h4
 exact vends_any hops a b hv Ah nh ch pays turn W hh ha hb hp ht hr hg (fun n h1 h4 => end_plan h1 h4 ha hb hg)
end Go.Proofs.YthhiookcknnmdaaGreat
