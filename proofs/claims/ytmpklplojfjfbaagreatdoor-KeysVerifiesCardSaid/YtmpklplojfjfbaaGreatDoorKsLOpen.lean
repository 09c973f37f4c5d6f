/- What KeysVerifies is handed, opened. Condition: the row's own. -/
import Derived.Test.YtmpklplojfjfbaaGreatDoorKeOp
import Derived.Test.YtmpklplojfjfbaaGreatDoorKsL
namespace Go.Proofs.YtmpklplojfjfbaaGreatDoor
open Go.ChangeShapes Go.WideShapes Go.ChangeAt Go.RowKit Go.Joins Go.Deep
section
variable {H : Type} {enc : TypeId × Value → H} {W : World} {base : Nat}
set_option maxRecDepth 100000 in
theorem open_octetsK {v : Value} {d : DataW H} {p : List MemPlace} (a0 : Value.okWide Tryz.prog W .any base 23 v) (h0 : DataW.Trod enc Tryz.prog W 0 (fun _ => true) true 23 v d p) :
    ∃ (L : Option Addr) (m c : Nat) (l : List Nat), v = .slice L m c ∧ Rd W W.heap.size 1 L m (bv l) ∧ m ≤ c ∧ m ≤ 9223372036854775807 ∧ ∀ x ∈ l, x < 256 := by
  obtain ⟨A, n, c, rfl⟩ := okWide_slice Tryz.underlying23 a0
  obtain ⟨fuel, hf⟩ := h0
  obtain ⟨A', m, c', l, e, hr, hc, hm, hg⟩ := bytes_of_cells Tryz.underlying23 hf
  simp [Value.cells] at e
  obtain ⟨rfl, rfl, rfl⟩ := e
  exact ⟨_, _, _, _, rfl, hr, hc, hm, hg⟩
set_option maxRecDepth 100000 in
theorem open_u16K {v : Value} {d : DataW H} {p : List MemPlace} (a0 : Value.okWide Tryz.prog W .any base 24 v) (h0 : DataW.Trod enc Tryz.prog W 0 (fun _ => true) true 24 v d p) : ∃ b : Nat, v = .int .u16 (b : Int) ∧ b < 65536 := by
  obtain ⟨n, rfl, _, _, hw⟩ := open_int Tryz.underlying24 a0 h0
  simp [Lit.wf, show IntKind.u16.min = 0 from rfl, show IntKind.u16.max = 65535 from rfl] at hw
  obtain ⟨b, rfl⟩ := Int.eq_ofNat_of_zero_le hw.1
  exact ⟨b, rfl, by omega⟩
end
set_option maxRecDepth 100000 in
theorem keysVerifies_open {H : Type} {enc : TypeId × Value → H} {W : World} {base : Nat} {v0 v1 v2 v3 v4 v5 v6 v7 : Value} {d0 d1 d2 d3 d4 d5 d6 d7 : DataW H} {p0 p1 p2 p3 p4 p5 p6 p7 : List MemPlace} {q q2 : Prop}
    (a0 : Value.okWide Tryz.prog W .any base 22 v0) (a1 : Value.okWide Tryz.prog W .any base 5 v1) (a2 : Value.okWide Tryz.prog W .any base 22 v2) (a3 : Value.okWide Tryz.prog W .any base 22 v3) (a4 : Value.okWide Tryz.prog W .any base 22 v4) (a5 : Value.okWide Tryz.prog W .any base 23 v5) (a6 : Value.okWide Tryz.prog W .any base 24 v6) (a7 : Value.okWide Tryz.prog W .any base 5 v7)
    (h0 : DataW.Trod enc Tryz.prog W 0 (fun _ => true) true 22 v0 d0 p0) (h1 : DataW.Trod enc Tryz.prog W 0 (fun _ => true) true 5 v1 d1 p1) (h2 : DataW.Trod enc Tryz.prog W 0 (fun _ => true) true 22 v2 d2 p2) (h3 : DataW.Trod enc Tryz.prog W 0 (fun _ => true) true 22 v3 d3 p3) (h4 : DataW.Trod enc Tryz.prog W 0 (fun _ => true) true 22 v4 d4 p4) (h5 : DataW.Trod enc Tryz.prog W 0 (fun _ => true) true 23 v5 d5 p5) (h6 : DataW.Trod enc Tryz.prog W 0 (fun _ => true) true 24 v6 d6 p6) (h7 : DataW.Trod enc Tryz.prog W 0 (fun _ => true) true 5 v7 d7 p7) (_hq : q) (_hq2 : q2) :
    Calls Tryz.prog 3 #[v0, v1, v2, v3, v4, v5, v6, v7] W fun e w' => e = .returned (.bool true) ∧ Below W.heap.size W w' := by
  obtain ⟨s, rfl, hs⟩ := open_dig a0 h0
  obtain ⟨h, rfl, hh⟩ := open_u8 a1 h1
  obtain ⟨m, rfl, hm⟩ := open_dig a2 h2
  obtain ⟨ot, rfl, hot⟩ := open_dig a3 h3
  obtain ⟨pu, rfl, hpu⟩ := open_dig a4 h4
  obtain ⟨A, n, c, l, rfl, hr, hnc, _, hl⟩ := open_octetsK a5 h5
  obtain ⟨at_, rfl, hat⟩ := open_u16K a6 h6
  obtain ⟨by_, rfl, hby⟩ := open_u8 a7 h7
  exact kver_any s h m ot pu A n c l at_ by_ W hs hh hm hot hpu hr hnc hl hat hby
end Go.Proofs.YtmpklplojfjfbaaGreatDoor
