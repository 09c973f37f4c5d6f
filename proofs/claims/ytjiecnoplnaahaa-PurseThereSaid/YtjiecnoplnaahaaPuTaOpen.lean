/- What PurseTells is handed, opened. Condition: the row's own. -/
import Derived.Test.YtjiecnoplnaahaaPuOpen
import Derived.Test.YtjiecnoplnaahaaPuTa
namespace Go.Proofs.Ytjiecnoplnaahaa
open Go.ChangeShapes Go.WideShapes Go.ChangeAt Go.RowKit Go.Joins
variable {H : Type} {enc : TypeId × Value → H} {W : World} {base : Nat}
theorem flat_bytes (l : List Nat) : (l.flatMap fun (x : Nat) => [Value.int .u8 (x : Int)]) = bv l := by
  unfold bv
  induction l with
  | nil => rfl
  | cons a l ih => rw [List.flatMap_cons, ih]; rfl
set_option maxRecDepth 100000 in
theorem open_octets {v : Value} {d : DataW H} {p : List MemPlace} (a0 : Value.okWide Try.prog W .any base 64 v) (h0 : DataW.Trod enc Try.prog W 0 (fun _ => true) true 64 v d p) :
    ∃ (L : Option Addr) (m c : Nat) (l : List Nat), v = .slice L m c ∧ Rd W W.heap.size 1 L m (bv l) ∧ m ≤ c ∧ ∀ x ∈ l, x < 256 := by
  obtain ⟨A, n, c, rfl⟩ := okWide_slice Try.underlying64 a0
  obtain ⟨fuel, hf⟩ := h0
  obtain ⟨A', m, c', l, e, hr, hc, _, hg⟩ := rows_of_cells (f := fun (x : Nat) => [Value.int .u8 (x : Int)]) (good := fun x => x < 256) (fun a => rfl) (by decide) Try.underlying64 cellsU8 (fun _ _ _ _ _ _ h => byte_of_cells h) hf
  simp [Value.cells] at e
  obtain ⟨rfl, rfl, rfl⟩ := e
  rw [flat_bytes] at hr
  refine ⟨_, _, _, l, rfl, hr, hc, fun x hx => ?_⟩
  obtain ⟨k, hk, rfl⟩ := List.getElem_of_mem hx
  have := hg k hk
  rwa [List.getD_eq_getElem?_getD, List.getElem?_eq_getElem hk] at this
set_option maxRecDepth 100000 in
theorem purseTells_open {v0 v1 : Value} {d0 d1 : DataW H} {p0 p1 : List MemPlace} {q : Prop}
    (a0 : Value.okWide Try.prog W .any base 26 v0) (a1 : Value.okWide Try.prog W .any base 64 v1)
    (h0 : DataW.Trod enc Try.prog W 0 (fun _ => true) true 26 v0 d0 p0) (h1 : DataW.Trod enc Try.prog W 0 (fun _ => true) true 64 v1 d1 p1) (_hq : q) :
    Calls Try.prog 8 #[v0, v1] W fun e w' => e = .returned (.bool true) ∧ Below W.heap.size W w' := by
  obtain ⟨p, A, n, c, rfl, hp⟩ := open_purse a0 h0
  obtain ⟨L, m, cl, l, rfl, hr, hc, hl⟩ := open_octets a1 h1
  exact purseTells_any p A L n c m cl l W hp.rd hp.cap ⟨hp.ok, hp.oks⟩ hr hc hl
end Go.Proofs.Ytjiecnoplnaahaa
