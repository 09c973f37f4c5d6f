/- What VirtualHub is handed, opened. Condition: the row's own. -/
import Derived.Test.YthhiookcknnmdaaGreatJoinUbb
import Derived.Test.YthhiookcknnmdaaGreatVqG
namespace Go.Proofs.YthhiookcknnmdaaGreat
open Go.ChangeShapes Go.WideShapes Go.ChangeAt Go.RowKit Go.Joins Go.Deep
set_option maxRecDepth 100000 in
theorem virtualHub_open {H : Type} {enc : TypeId × Value → H} {W : World} {base : Nat} {v0 v1 v2 v3 v4 : Value} {d0 d1 d2 d3 d4 : DataW H} {p0 p1 p2 p3 p4 : List MemPlace} {q : Prop}
  (a0 : Value.okWide Tryz.prog W .any base 5 v0) (a1 : Value.okWide Tryz.prog W .any base 45 v1) (a2 : Value.okWide Tryz.prog W .any base 46 v2) (a3 : Value.okWide Tryz.prog W .any base 75 v3) (a4 : Value.okWide Tryz.prog W .any base 5 v4)
  (h0 : DataW.Trod enc Tryz.prog W 0 (fun _ => true) true 5 v0 d0 p0) (h1 : DataW.Trod enc Tryz.prog W 0 (fun _ => true) true 45 v1 d1 p1) (h2 : DataW.Trod enc Tryz.prog W 0 (fun _ => true) true 46 v2 d2 p2) (h3 : DataW.Trod enc Tryz.prog W 0 (fun _ => true) true 75 v3 d3 p3) (h4 : DataW.Trod enc Tryz.prog W 0 (fun _ => true) true 5 v4 d4 p4) (_hq : q) :
  Calls Tryz.prog 6 #[v0, v1, v2, v3, v4] W fun e w' => e = .returned (.bool true) ∧ Below W.heap.size W w' := by
 obtain ⟨hops, rfl, hh⟩ := open_u8V a0 h0
 obtain ⟨a, b, rfl, ha, hb⟩ := open_two8 a1 h1
 obtain ⟨Ah, nh, ch, hv, rfl, hr, hg⟩ := open_octetsV a2 h2
 obtain ⟨Al, nl, cl, l, rfl, hrl, hlo⟩ := open_actsV a3 h3
 obtain ⟨who, rfl, hwo⟩ := open_u8V a4 h4
 exact vhub_any hops a b hv who hwo Ah nh ch Al nl cl l W hh ha hb hr hg hrl hlo
end Go.Proofs.YthhiookcknnmdaaGreat
