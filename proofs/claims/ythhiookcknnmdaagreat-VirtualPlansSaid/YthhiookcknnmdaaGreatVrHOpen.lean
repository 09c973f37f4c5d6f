/- What VirtualPlans is handed, opened. Condition: the row's own. -/
import Derived.Test.YthhiookcknnmdaaGreatJoinUba
import Derived.Test.YthhiookcknnmdaaGreatVrH
namespace Go.Proofs.YthhiookcknnmdaaGreat
open Go.ChangeShapes Go.WideShapes Go.ChangeAt Go.RowKit Go.Joins Go.Deep
set_option maxRecDepth 100000 in
theorem open_intP {H : Type} {enc : TypeId × Value → H} {W : World} {base : Nat} {v : Value} {d : DataW H} {p : List MemPlace} (a0 : Value.okWide Tryz.prog W .any base 3 v) (h0 : DataW.Trod enc Tryz.prog W 0 (fun _ => true) true 3 v d p) : ∃ b : Int, v = .int .i64 b := by
 obtain ⟨n, rfl, _, _, _⟩ := open_int Tryz.underlying3 a0 h0
 exact ⟨n, rfl⟩
set_option maxRecDepth 100000 in
theorem virtualPlans_open {H : Type} {enc : TypeId × Value → H} {W : World} {base : Nat} {v0 v1 v2 v3 v4 : Value} {d0 d1 d2 d3 d4 : DataW H} {p0 p1 p2 p3 p4 : List MemPlace} {q : Prop}
  (a0 : Value.okWide Tryz.prog W .any base 65 v0) (a1 : Value.okWide Tryz.prog W .any base 3 v1) (a2 : Value.okWide Tryz.prog W .any base 3 v2) (a3 : Value.okWide Tryz.prog W .any base 3 v3) (a4 : Value.okWide Tryz.prog W .any base 3 v4)
  (h0 : DataW.Trod enc Tryz.prog W 0 (fun _ => true) true 65 v0 d0 p0) (h1 : DataW.Trod enc Tryz.prog W 0 (fun _ => true) true 3 v1 d1 p1) (h2 : DataW.Trod enc Tryz.prog W 0 (fun _ => true) true 3 v2 d2 p2) (h3 : DataW.Trod enc Tryz.prog W 0 (fun _ => true) true 3 v3 d3 p3) (h4 : DataW.Trod enc Tryz.prog W 0 (fun _ => true) true 3 v4 d4 p4) (_hq : q) :
  Calls Tryz.prog 5 #[v0, v1, v2, v3, v4] W fun e w' => e = .returned (.bool true) ∧ Below W.heap.size W w' := by
 obtain ⟨p, Ak, nk, ck, An, nn, cn, Af, nf, cf, rfl, hk, hn, hf, hc, ht, hok⟩ := open_planR a0 h0
 obtain ⟨last, rfl⟩ := open_intP a1 h1
 obtain ⟨wn, rfl⟩ := open_intP a2 h2
 obtain ⟨hop, rfl⟩ := open_intP a3 h3
 obtain ⟨wh, rfl⟩ := open_intP a4 h4
 exact vplans_any p Ak nk ck An nn cn Af nf cf last wn hop wh W hk hn hf hc ht hok
end Go.Proofs.YthhiookcknnmdaaGreat
