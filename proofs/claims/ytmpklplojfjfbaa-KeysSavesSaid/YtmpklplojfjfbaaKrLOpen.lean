/- What KeysSaves is handed, opened. Condition: the row's own. -/
import Derived.Test.YtmpklplojfjfbaaKeOp
import Derived.Test.YtmpklplojfjfbaaKrL
namespace Go.Proofs.Ytmpklplojfjfbaa
open Go.ChangeShapes Go.WideShapes Go.ChangeAt Go.RowKit Go.Joins Go.Deep
section
variable {H : Type} {enc : TypeId × Value → H} {W : World} {base : Nat}
set_option maxRecDepth 100000 in
theorem open_octetsK {v : Value} {d : DataW H} {p : List MemPlace} (a0 : Value.okWide Try.prog W .any base 32 v) (h0 : DataW.Trod enc Try.prog W 0 (fun _ => true) true 32 v d p) :
    ∃ (L : Option Addr) (m c : Nat) (l : List Nat), v = .slice L m c ∧ Rd W W.heap.size 1 L m (bv l) ∧ m ≤ c ∧ m ≤ 9223372036854775807 ∧ ∀ x ∈ l, x < 256 := by
  obtain ⟨A, n, c, rfl⟩ := okWide_slice Try.underlying32 a0
  obtain ⟨fuel, hf⟩ := h0
  obtain ⟨A', m, c', l, e, hr, hc, hm, hg⟩ := bytes_of_cells Try.underlying32 hf
  simp [Value.cells] at e
  obtain ⟨rfl, rfl, rfl⟩ := e
  exact ⟨_, _, _, _, rfl, hr, hc, hm, hg⟩
end
set_option maxRecDepth 100000 in
theorem keysSaves_open {H : Type} {enc : TypeId × Value → H} {W : World} {base : Nat} {v0 v1 v2 v3 : Value} {d0 d1 d2 d3 : DataW H} {p0 p1 p2 p3 : List MemPlace} {q : Prop}
    (a0 : Value.okWide Try.prog W .any base 22 v0) (a1 : Value.okWide Try.prog W .any base 5 v1) (a2 : Value.okWide Try.prog W .any base 23 v2) (a3 : Value.okWide Try.prog W .any base 32 v3)
    (h0 : DataW.Trod enc Try.prog W 0 (fun _ => true) true 22 v0 d0 p0) (h1 : DataW.Trod enc Try.prog W 0 (fun _ => true) true 5 v1 d1 p1) (h2 : DataW.Trod enc Try.prog W 0 (fun _ => true) true 23 v2 d2 p2) (h3 : DataW.Trod enc Try.prog W 0 (fun _ => true) true 32 v3 d3 p3) (_hq : q) :
    Calls Try.prog 4 #[v0, v1, v2, v3] W fun e w' => e = .returned (.bool true) ∧ Below W.heap.size W w' := by
  obtain ⟨a, rfl, ha⟩ := open_dig a0 h0
  obtain ⟨h, rfl, hh⟩ := open_u8 a1 h1
  obtain ⟨A, n, c, l, rfl, hr, hok⟩ := open_digs Try.underlying23 a2 h2
  obtain ⟨A', n', c', b, rfl, hr', hnc, _, hb⟩ := open_octetsK a3 h3
  exact ksaves_any a h A n c l A' n' c' b W ha hh hr hok hr' hnc hb
end Go.Proofs.Ytmpklplojfjfbaa
