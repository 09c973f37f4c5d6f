/- What TxReal is handed, opened. Condition: the row's own. -/
import Derived.Test.YthjpaclcoipocaaGreatKeOp
import Derived.Test.YthjpaclcoipocaaGreatTyL
namespace Go.Proofs.YthjpaclcoipocaaGreat
open Go.ChangeShapes Go.WideShapes Go.ChangeAt Go.RowKit Go.Joins Go.Deep
section
variable {H : Type} {enc : TypeId × Value → H} {W : World} {base : Nat}
set_option maxRecDepth 100000 in
theorem open_octetsY {v : Value} {d : DataW H} {p : List MemPlace} (a0 : Value.okWide Tryz.prog W .any base 24 v) (h0 : DataW.Trod enc Tryz.prog W 0 (fun _ => true) true 24 v d p) :
    ∃ (L : Option Addr) (m c : Nat) (l : List Nat), v = .slice L m c ∧ Rd W W.heap.size 1 L m (bv l) ∧ m ≤ c ∧ m ≤ 9223372036854775807 ∧ ∀ x ∈ l, x < 256 := by
  obtain ⟨A, n, c, rfl⟩ := okWide_slice Tryz.underlying24 a0
  obtain ⟨fuel, hf⟩ := h0
  obtain ⟨A', m, c', l, e, hr, hc, hm, hg⟩ := bytes_of_cells Tryz.underlying24 hf
  simp [Value.cells] at e
  obtain ⟨rfl, rfl, rfl⟩ := e
  exact ⟨_, _, _, _, rfl, hr, hc, hm, hg⟩
set_option maxRecDepth 100000 in
theorem open_u16Y {v : Value} {d : DataW H} {p : List MemPlace} (a0 : Value.okWide Tryz.prog W .any base 23 v) (h0 : DataW.Trod enc Tryz.prog W 0 (fun _ => true) true 23 v d p) : ∃ b : Nat, v = .int .u16 (b : Int) ∧ b < 65536 := by
  obtain ⟨n, rfl, _, _, hw⟩ := open_int Tryz.underlying23 a0 h0
  simp [Lit.wf, show IntKind.u16.min = 0 from rfl, show IntKind.u16.max = 65535 from rfl] at hw
  obtain ⟨b, rfl⟩ := Int.eq_ofNat_of_zero_le hw.1
  exact ⟨b, rfl, by omega⟩
end
set_option maxRecDepth 100000 in
theorem txReal_open {H : Type} {enc : TypeId × Value → H} {W : World} {base : Nat} {v0 v1 v2 : Value} {d0 d1 d2 : DataW H} {p0 p1 p2 : List MemPlace} {q : Prop}
    (a0 : Value.okWide Tryz.prog W .any base 22 v0) (a1 : Value.okWide Tryz.prog W .any base 23 v1) (a2 : Value.okWide Tryz.prog W .any base 24 v2)
    (h0 : DataW.Trod enc Tryz.prog W 0 (fun _ => true) true 22 v0 d0 p0) (h1 : DataW.Trod enc Tryz.prog W 0 (fun _ => true) true 23 v1 d1 p1) (h2 : DataW.Trod enc Tryz.prog W 0 (fun _ => true) true 24 v2 d2 p2) (_hq : q) :
    Calls Tryz.prog 3 #[v0, v1, v2] W fun e w' => e = .returned (.bool true) ∧ Below W.heap.size W w' := by
  obtain ⟨s, rfl, hs⟩ := open_dig a0 h0
  obtain ⟨no, rfl, hno⟩ := open_u16Y a1 h1
  obtain ⟨A, n, c, l, rfl, hr, hnc, _, hl⟩ := open_octetsY a2 h2
  exact treal_any s no A n c l W hs hno hr hnc hl
end Go.Proofs.YthjpaclcoipocaaGreat
