/- A slice of deeds that comes in, opened to a list; internal/bytealg.MaxLen, out of the world's shape; what CheatChecks is handed, opened. Condition: the row's own. -/
import Derived.Test.YtigolkdclacikaaDoorChF
import Derived.Lib.SmallJoins
import Derived.Deep.Slices
import Derived.OpenShut
namespace Go.Proofs.YtigolkdclacikaaDoor
open Go.ChangeShapes Go.WideShapes Go.ChangeAt Go.RowKit Go.Joins Go.Deep
section
variable {H : Type} {enc : TypeId × Value → H} {W : World} {base : Nat}
theorem cellsD : Tryd.prog.cellsOf 35 = 5 := by kernel_rfl
theorem cellsInt : Tryd.prog.cellsOf 3 = 1 := by kernel_rfl
theorem addr_add (a : Addr) (i j : Nat) : (a.add i).add j = a.add (i + j) := by
  unfold Addr.add
  by_cases hi : i = 0 <;> by_cases hj : j = 0 <;> simp [hi, hj, Nat.add_assoc]
theorem addr_flat {a : Addr} (h : a.spot = none) (i : Nat) : a.add i = ⟨a.block, a.off + i, none⟩ := by
  unfold Addr.add
  split
  · subst_vars; cases a; simp_all
  · rfl
theorem addr_spot {a : Addr} {i : Nat} {w : World} {v : Value} (h : w.cell? (a.add i) = some v) (hi : i = 0) : a.spot = none := by
  subst hi
  have := World.cell?_spot h
  simpa [Addr.add] using this

set_option maxRecDepth 100000 in
theorem de_of_cells {n : Nat} {spare : Nat → Bool} {held : Bool} {cs : List Value} {x : DataW H × List MemPlace} (h : DataW.trod enc Tryd.prog W base spare held n 35 cs = some x) : ∃ i : De, cs = i.cells := by
  obtain ⟨xs, n, _, _, hl, hxl, hg⟩ := DataW.trod_struct Tryd.underlying35 h
  rw [cellsD] at hl
  have g0 : DataW.trod enc Tryd.prog W base spare held n 3 ((cs.drop 0).take (Tryd.prog.cellsOf 3)) = xs[0]? := hg 0 _ rfl
  have g1 : DataW.trod enc Tryd.prog W base spare held n 3 ((cs.drop 1).take (Tryd.prog.cellsOf 3)) = xs[1]? := hg 1 _ rfl
  have g2 : DataW.trod enc Tryd.prog W base spare held n 3 ((cs.drop 2).take (Tryd.prog.cellsOf 3)) = xs[2]? := hg 2 _ rfl
  have g3 : DataW.trod enc Tryd.prog W base spare held n 3 ((cs.drop 3).take (Tryd.prog.cellsOf 3)) = xs[3]? := hg 3 _ rfl
  have g4 : DataW.trod enc Tryd.prog W base spare held n 3 ((cs.drop 4).take (Tryd.prog.cellsOf 3)) = xs[4]? := hg 4 _ rfl
  rw [cellsInt] at g0 g1 g2 g3 g4
  simp at hxl
  rw [List.getElem?_eq_getElem (by omega)] at g0 g1 g2 g3 g4
  obtain ⟨x0, e0, _, _⟩ := DataW.trod_int Tryd.underlying3 g0
  obtain ⟨x1, e1, _, _⟩ := DataW.trod_int Tryd.underlying3 g1
  obtain ⟨x2, e2, _, _⟩ := DataW.trod_int Tryd.underlying3 g2
  obtain ⟨x3, e3, _, _⟩ := DataW.trod_int Tryd.underlying3 g3
  obtain ⟨x4, e4, _, _⟩ := DataW.trod_int Tryd.underlying3 g4
  match cs, hl with
  | [c0, c1, c2, c3, c4], _ =>
    simp at e0 e1 e2 e3 e4
    exact ⟨⟨x0, x1, x2, x3, x4⟩, by simp [De.cells, e0, e1, e2, e3, e4]⟩

set_option maxRecDepth 100000 in
theorem open_de {t : TypeId} {v : Value} {d : DataW H} {p : List MemPlace} (ht : Tryd.prog.underlying t = some (.slice 35))
    (a0 : Value.okWide Tryd.prog W .any base t v) (h0 : DataW.Trod enc Tryd.prog W 0 (fun _ => true) true t v d p) :
    ∃ A n c l, v = .slice A n c ∧ Rd W W.heap.size 5 A n (flat l) ∧ n ≤ 9223372036854775807 := by
  obtain ⟨A, n, c, rfl⟩ := okWide_slice ht a0
  obtain ⟨fuel, hf⟩ := h0
  rcases open_slice ht hf with ⟨hcs, _⟩ | ⟨a, len, cap, m, k, D, Pl, hcs, _, hlc, hcm, hm, _, hi⟩
  · simp [Value.cells] at hcs
    obtain ⟨rfl, rfl, rfl⟩ := hcs
    exact ⟨_, _, _, [], rfl, Rd.empty, by omega⟩
  · simp [Value.cells] at hcs
    obtain ⟨rfl, rfl, rfl⟩ := hcs
    have hmn : n ≤ m := by rw [hm]; split <;> omega
    have hall : ∀ i, ∃ s : De, i < n → ∀ j, j < 5 → W.cell? (a.add (i * 5 + j)) = s.cells[j]? := by
      intro i
      by_cases hin : i < n
      · obtain ⟨cs', hc, ht'⟩ := hi i (by omega)
        rw [cellsD] at hc
        obtain ⟨_, hcl, hat⟩ := World.cells?_some hc
        obtain ⟨s, rfl⟩ := de_of_cells ht'
        exact ⟨s, fun _ j hj => by rw [← addr_add]; exact hat j hj⟩
      · exact ⟨default, fun h => absurd h hin⟩
    let f := fun i => Classical.choose (hall i)
    have hfs : ∀ i, i < n → ∀ j, j < 5 → W.cell? (a.add (i * 5 + j)) = (f i).cells[j]? := fun i => Classical.choose_spec (hall i)
    refine ⟨_, _, _, (List.range n).map f, rfl, ⟨by rw [flat_len]; simp, fun hn => ?_⟩, by simp only [maxLen] at hcm; omega⟩
    have h00 := hfs 0 hn 0 (by omega)
    have hsp : a.spot = none := by
      have h1 : W.cell? (a.add 0) = some (.int .i64 (f 0).t) := h00
      exact addr_spot h1 rfl
    refine ⟨a.block, a.off, by cases a; simp_all, ?_, fun j u hu => ?_⟩
    · have h1 : W.cell? (a.add 0) = some (.int .i64 (f 0).t) := h00
      rw [addr_flat hsp] at h1
      exact World.block_lt_of_cell? W ⟨a.block, a.off + 0, none⟩ h1
    · have hjl : j < n * 5 := by
        have := (List.getElem?_eq_some_iff.1 hu).1
        rw [flat_len] at this; simpa using this
      have e := flat_at ((List.range n).map f) (j / 5) (j % 5) (by simp; omega) (by omega)
      have ej : j / 5 * 5 + j % 5 = j := by omega
      rw [ej, hu] at e
      have h2 := hfs (j / 5) (by omega) (j % 5) (by omega)
      rw [ej, addr_flat hsp] at h2
      rw [h2, e]
      have hdn : j / 5 < n := by omega
      simp [List.getD_eq_getElem?_getD, hdn]
end
theorem max_of_shape {W : World} (h : W.ShapedOpen Tryd.prog) : MaxAt W := by
  obtain ⟨m, hm⟩ := Tryd.laysM145.s1_3 W h
  refine ⟨?_, m, hm⟩
  exact World.block_lt_of_cell? W ⟨0, 0, none⟩ hm
set_option maxRecDepth 100000 in
theorem cheatChecks_open {H : Type} {enc : TypeId × Value → H} {W : World} {base : Nat} {v0 v1 v2 : Value} {d0 d1 d2 : DataW H} {p0 p1 p2 : List MemPlace} {q r : Prop}
    (a0 : Value.okWide Tryd.prog W .any base 22 v0) (a1 : Value.okWide Tryd.prog W .any base 3 v1) (a2 : Value.okWide Tryd.prog W .any base 3 v2)
    (h0 : DataW.Trod enc Tryd.prog W 0 (fun _ => true) true 22 v0 d0 p0) (h1 : DataW.Trod enc Tryd.prog W 0 (fun _ => true) true 3 v1 d1 p1) (h2 : DataW.Trod enc Tryd.prog W 0 (fun _ => true) true 3 v2 d2 p2)
    (_hL : r) (hsh : W.ShapedOpen Tryd.prog) (_hq : q) :
    Calls Tryd.prog 3 #[v0, v1, v2] W fun e w' => e = .returned (.bool true) ∧ Below W.heap.size W w' := by
  obtain ⟨A, n, cp, l, rfl, hr, hn⟩ := open_de Tryd.underlying22 a0 h0
  obtain ⟨p, rfl, rfl, rfl, _⟩ := open_int Tryd.underlying3 a1 h1
  obtain ⟨k, rfl, rfl, rfl, _⟩ := open_int Tryd.underlying3 a2 h2
  exact checks_any _ _ _ _ _ _ _ (max_of_shape hsh) hr hn
end Go.Proofs.YtigolkdclacikaaDoor
