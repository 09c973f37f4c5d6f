/- A slice of entries that comes in, opened to a list. Condition: the row's own. -/
import Derived.Test.YtepdinfopcohiaaNoJ
import Derived.Lib.SmallJoins
import Derived.Deep.Slices
import Derived.OpenShut
namespace Go.Proofs.Ytepdinfopcohiaa
open Go.ChangeShapes Go.WideShapes Go.ChangeAt Go.RowKit Go.Joins Go.Deep
section
variable {H : Type} {enc : TypeId × Value → H} {W : World} {base : Nat}
theorem cellsLe : Try.prog.cellsOf 36 = 2 := by kernel_rfl
theorem cellsU8 : Try.prog.cellsOf 5 = 1 := by kernel_rfl
theorem addr_add (a : Addr) (i j : Nat) : (a.add i).add j = a.add (i + j) := by
  unfold Addr.add
  by_cases hi : i = 0 <;> by_cases hj : j = 0 <;> simp [hi, hj, Nat.add_assoc]
theorem addr_flat {a : Addr} (h : a.spot = none) (i : Nat) : a.add i = ⟨a.block, a.off + i, none⟩ := by
  unfold Addr.add
  split
  · subst_vars; cases a; simp_all
  · rfl
theorem addr_spot {a : Addr} {i : Nat} {w : World} {v : Value} (h : w.cell? (a.add i) = some v) (hi : i = 0) : a.spot = none := by
  subst hi
  have := World.cell?_spot h
  simpa [Addr.add] using this

theorem byte_of_cells {n : Nat} {spare : Nat → Bool} {held : Bool} {cs : List Value} {x : DataW H × List MemPlace} (h : DataW.trod enc Try.prog W base spare held n 5 cs = some x) : ∃ b : Nat, cs = [.int .u8 (b : Int)] ∧ b < 256 := by
  obtain ⟨m, rfl, _, hw⟩ := DataW.trod_int Try.underlying5 h
  simp [Lit.wf, show IntKind.u8.min = 0 from rfl, show IntKind.u8.max = 255 from rfl] at hw
  obtain ⟨h0, h1⟩ := hw
  obtain ⟨b, rfl⟩ := Int.eq_ofNat_of_zero_le h0
  exact ⟨b, rfl, by omega⟩
set_option maxRecDepth 100000 in
theorem le_of_cells {n : Nat} {spare : Nat → Bool} {held : Bool} {cs : List Value} {x : DataW H × List MemPlace} (h : DataW.trod enc Try.prog W base spare held n 36 cs = some x) : ∃ i : Nu, cs = i.cells8 ∧ i.small := by
  obtain ⟨xs, n, _, _, hl, hxl, hg⟩ := DataW.trod_struct Try.underlying36 h
  rw [cellsLe] at hl
  have g0 : DataW.trod enc Try.prog W base spare held n 5 ((cs.drop 0).take (Try.prog.cellsOf 5)) = xs[0]? := hg 0 _ rfl
  have g1 : DataW.trod enc Try.prog W base spare held n 5 ((cs.drop 1).take (Try.prog.cellsOf 5)) = xs[1]? := hg 1 _ rfl
  rw [cellsU8] at g0 g1
  simp at hxl
  rw [List.getElem?_eq_getElem (by omega)] at g0 g1
  obtain ⟨x0, e0, l0⟩ := byte_of_cells g0
  obtain ⟨x1, e1, l1⟩ := byte_of_cells g1
  match cs, hl with
  | [c0, c1], _ =>
    simp at e0 e1
    exact ⟨⟨x0, x1⟩, by simp [Nu.cells8, e0, e1], l0, l1⟩
set_option maxRecDepth 100000 in
theorem open_le {t : TypeId} {v : Value} {d : DataW H} {p : List MemPlace} (ht : Try.prog.underlying t = some (.slice 36))
    (a0 : Value.okWide Try.prog W .any base t v) (h0 : DataW.Trod enc Try.prog W 0 (fun _ => true) true t v d p) :
    ∃ A n c l, v = .slice A n c ∧ Rd W W.heap.size 2 A n (flatL l) ∧ ∀ x ∈ l, x.small := by
  obtain ⟨A, n, c, rfl⟩ := okWide_slice ht a0
  obtain ⟨fuel, hf⟩ := h0
  rcases open_slice ht hf with ⟨hcs, _⟩ | ⟨a, len, cap, m, k, D, Pl, hcs, _, hlc, hcm, hm, _, hi⟩
  · simp [Value.cells] at hcs
    obtain ⟨rfl, rfl, rfl⟩ := hcs
    exact ⟨_, _, _, [], rfl, Rd.empty, by simp⟩
  · simp [Value.cells] at hcs
    obtain ⟨rfl, rfl, rfl⟩ := hcs
    have hmn : n ≤ m := by rw [hm]; split <;> omega
    have hall : ∀ i, ∃ s : Nu, s.small ∧ (i < n → ∀ j, j < 2 → W.cell? (a.add (i * 2 + j)) = s.cells8[j]?) := by
      intro i
      by_cases hin : i < n
      · obtain ⟨cs', hc, ht'⟩ := hi i (by omega)
        rw [cellsLe] at hc
        obtain ⟨_, hcl, hat⟩ := World.cells?_some hc
        obtain ⟨s, rfl, hsm⟩ := le_of_cells ht'
        exact ⟨s, hsm, fun _ j hj => by rw [← addr_add]; exact hat j hj⟩
      · exact ⟨⟨0, 0⟩, ⟨by decide, by decide⟩, fun h => absurd h hin⟩
    let f := fun i => Classical.choose (hall i)
    have hfs : ∀ i, i < n → ∀ j, j < 2 → W.cell? (a.add (i * 2 + j)) = (f i).cells8[j]? := fun i => (Classical.choose_spec (hall i)).2
    have hfm : ∀ i, (f i).small := fun i => (Classical.choose_spec (hall i)).1
    refine ⟨_, _, _, (List.range n).map f, rfl, ?_, fun x hx => by obtain ⟨i, _, rfl⟩ := List.mem_map.1 hx; exact hfm i⟩
    refine ⟨by rw [flatL_len]; simp, fun hn => ?_⟩
    have h00 := hfs 0 hn 0 (by omega)
    have hsp : a.spot = none := by
      have h1 : W.cell? (a.add 0) = some (.int .u8 ((f 0).k : Int)) := h00
      exact addr_spot h1 rfl
    refine ⟨a.block, a.off, by cases a; simp_all, ?_, fun j u hu => ?_⟩
    · have h1 : W.cell? (a.add 0) = some (.int .u8 ((f 0).k : Int)) := h00
      rw [addr_flat hsp] at h1
      exact World.block_lt_of_cell? W ⟨a.block, a.off + 0, none⟩ h1
    · have hjl : j < n * 2 := by
        have := (List.getElem?_eq_some_iff.1 hu).1
        rw [flatL_len] at this; simpa using this
      have e := flatL_at ((List.range n).map f) (j / 2) (j % 2) (by simp; omega) (by omega)
      have ej : j / 2 * 2 + j % 2 = j := by omega
      rw [ej, hu] at e
      have h2 := hfs (j / 2) (by omega) (j % 2) (by omega)
      rw [ej, addr_flat hsp] at h2
      rw [h2, e]
      have hdn : j / 2 < n := by omega
      simp [List.getD_eq_getElem?_getD, hdn]
end
end Go.Proofs.Ytepdinfopcohiaa
