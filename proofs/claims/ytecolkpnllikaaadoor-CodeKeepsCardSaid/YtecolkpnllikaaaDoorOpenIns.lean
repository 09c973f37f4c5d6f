/- A slice of instructions that comes in, opened to a list; the openings of CodeRights. Condition: the row's own. -/
import Derived.Test.YtecolkpnllikaaaDoorLaid
import Derived.Test.YtecolkpnllikaaaDoorCodeRights
import Derived.Lib.SmallJoins
import Derived.Deep.Slices
namespace Go.Proofs.YtecolkpnllikaaaDoor
open Go.ChangeShapes Go.WideShapes Go.ChangeAt Go.RowKit Go.Joins Go.Deep

section
variable {H : Type} {enc : TypeId × Value → H} {W : World} {base : Nat}
theorem cellsI : Tryd.prog.cellsOf 23 = 4 := by kernel_rfl
theorem cellsInt : Tryd.prog.cellsOf 3 = 1 := by kernel_rfl
theorem addr_add (a : Addr) (i j : Nat) : (a.add i).add j = a.add (i + j) := by
  unfold Addr.add
  by_cases hi : i = 0 <;> by_cases hj : j = 0 <;> simp [hi, hj, Nat.add_assoc]
theorem addr_flat {a : Addr} (h : a.spot = none) (i : Nat) : a.add i = ⟨a.block, a.off + i, none⟩ := by
  unfold Addr.add
  split
  · subst_vars; cases a; simp_all
  · rfl
theorem addr_spot {a : Addr} {i : Nat} {w : World} {v : Value} (h : w.cell? (a.add i) = some v) (hi : i = 0) : a.spot = none := by
  subst hi
  have := World.cell?_spot h
  simpa [Addr.add] using this

set_option maxRecDepth 100000 in
theorem ins_of_cells {n : Nat} {spare : Nat → Bool} {held : Bool} {cs : List Value} {x : DataW H × List MemPlace} (h : DataW.trod enc Tryd.prog W base spare held n 23 cs = some x) : ∃ i : Ins, cs = i.cells := by
  obtain ⟨y0, y1, y2, y3, m, _, hl, g0, g1, g2, g3⟩ := trod_struct4 Tryd.underlying23 h
  rw [cellsI] at hl
  simp only [cellsInt] at g0 g1 g2 g3
  obtain ⟨x0, e0, _, _⟩ := DataW.trod_int Tryd.underlying3 g0
  obtain ⟨x1, e1, _, _⟩ := DataW.trod_int Tryd.underlying3 g1
  obtain ⟨x2, e2, _, _⟩ := DataW.trod_int Tryd.underlying3 g2
  obtain ⟨x3, e3, _, _⟩ := DataW.trod_int Tryd.underlying3 g3
  match cs, hl with
  | [c0, c1, c2, c3], _ =>
    simp at e0 e1 e2 e3
    exact ⟨⟨x0, x1, x2, x3⟩, by simp [Ins.cells, e0, e1, e2, e3]⟩

set_option maxRecDepth 100000 in
theorem open_ins {t : TypeId} {v : Value} {d : DataW H} {p : List MemPlace} (ht : Tryd.prog.underlying t = some (.slice 23))
    (a0 : Value.okWide Tryd.prog W .any base t v) (h0 : DataW.Trod enc Tryd.prog W 0 (fun _ => true) true t v d p) :
    ∃ A n c l, v = .slice A n c ∧ Rd W W.heap.size 4 A n (flat l) ∧ n ≤ 9223372036854775807 := by
  obtain ⟨A, n, c, rfl⟩ := okWide_slice ht a0
  obtain ⟨fuel, hf⟩ := h0
  rcases open_slice ht hf with ⟨hcs, _⟩ | ⟨a, len, cap, m, k, D, Pl, hcs, _, hlc, hcm, hm, _, hi⟩
  · simp [Value.cells] at hcs
    obtain ⟨rfl, rfl, rfl⟩ := hcs
    exact ⟨_, _, _, [], rfl, Rd.empty, by omega⟩
  · simp [Value.cells] at hcs
    obtain ⟨rfl, rfl, rfl⟩ := hcs
    have hmn : n ≤ m := by rw [hm]; split <;> omega
    have hall : ∀ i, ∃ s : Ins, i < n → ∀ j, j < 4 → W.cell? (a.add (i * 4 + j)) = s.cells[j]? := by
      intro i
      by_cases hin : i < n
      · obtain ⟨cs', hc, ht'⟩ := hi i (by omega)
        rw [cellsI] at hc
        obtain ⟨_, hcl, hat⟩ := World.cells?_some hc
        obtain ⟨s, rfl⟩ := ins_of_cells ht'
        exact ⟨s, fun _ j hj => by rw [← addr_add]; exact hat j hj⟩
      · exact ⟨default, fun h => absurd h hin⟩
    let f := fun i => Classical.choose (hall i)
    have hfs : ∀ i, i < n → ∀ j, j < 4 → W.cell? (a.add (i * 4 + j)) = (f i).cells[j]? := fun i => Classical.choose_spec (hall i)
    refine ⟨_, _, _, (List.range n).map f, rfl, ⟨by rw [flat_len]; simp, fun hn => ?_⟩, by simp only [maxLen] at hcm; omega⟩
    have h00 := hfs 0 hn 0 (by omega)
    have hsp : a.spot = none := by
      have h1 : W.cell? (a.add 0) = some (.int .i64 (f 0).op) := h00
      exact addr_spot h1 rfl
    refine ⟨a.block, a.off, by cases a; simp_all, ?_, fun j u hu => ?_⟩
    · have h1 : W.cell? (a.add 0) = some (.int .i64 (f 0).op) := h00
      rw [addr_flat hsp] at h1
      exact World.block_lt_of_cell? W ⟨a.block, a.off + 0, none⟩ h1
    · have hjl : j < n * 4 := by
        have := (List.getElem?_eq_some_iff.1 hu).1
        rw [flat_len] at this; simpa using this
      have e := flat_at ((List.range n).map f) (j / 4) (j % 4) (by simp; omega) (by omega)
      have ej : j / 4 * 4 + j % 4 = j := by omega
      rw [ej, hu] at e
      have h2 := hfs (j / 4) (by omega) (j % 4) (by omega)
      rw [ej, addr_flat hsp] at h2
      rw [h2, e]
      have hdn : j / 4 < n := by omega
      simp [List.getD_eq_getElem?_getD, hdn]
set_option maxRecDepth 100000 in
theorem open_I {v0 : Value} {d0 : DataW H} {p0 : List MemPlace} (a0 : Value.okWide Tryd.prog W .any base 23 v0) (h0 : DataW.Trod enc Tryd.prog W 0 (fun _ => true) true 23 v0 d0 p0) :
    ∃ op a b c : Int, v0 = .agg #[.int .i64 op, .int .i64 a, .int .i64 b, .int .i64 c] := by
  obtain ⟨cs, rfl, hsz⟩ := okWide_struct Tryd.underlying23 a0
  obtain ⟨fuel, hf⟩ := h0
  obtain ⟨s, hs⟩ := ins_of_cells hf
  obtain ⟨l⟩ := cs
  simp only [Value.cells] at hs
  subst hs
  exact ⟨_, _, _, _, rfl⟩
end
set_option maxRecDepth 100000 in
theorem codeRights_open {H : Type} {enc : TypeId × Value → H} {W : World} {base : Nat} {v0 v1 v2 v3 : Value} {d0 d1 d2 d3 : DataW H} {p0 p1 p2 p3 : List MemPlace} {q : Prop}
    (a0 : Value.okWide Tryd.prog W .any base 23 v0) (a1 : Value.okWide Tryd.prog W .any base 3 v1) (a2 : Value.okWide Tryd.prog W .any base 3 v2) (a3 : Value.okWide Tryd.prog W .any base 36 v3)
    (h0 : DataW.Trod enc Tryd.prog W 0 (fun _ => true) true 23 v0 d0 p0) (h1 : DataW.Trod enc Tryd.prog W 0 (fun _ => true) true 3 v1 d1 p1) (h2 : DataW.Trod enc Tryd.prog W 0 (fun _ => true) true 3 v2 d2 p2)
    (h3 : DataW.Trod enc Tryd.prog W 0 (fun _ => true) true 36 v3 d3 p3)
    (hL : laidMetH Tryd.prog Rows.codeRightsRow.laid W) (_hq : q) :
    Calls Tryd.prog 4 #[v0, v1, v2, v3] W fun e w' => e = .returned (.bool true) ∧ Below W.heap.size W w' := by
  obtain ⟨op, a, b, c, rfl⟩ := open_I a0 h0
  obtain ⟨size, rfl, rfl, rfl, _⟩ := open_int Tryd.underlying3 a1 h1
  obtain ⟨words, rfl, rfl, rfl, _⟩ := open_int Tryd.underlying3 a2 h2
  obtain ⟨A, n, cp, l, rfl, hr, hn⟩ := open_ins Tryd.underlying36 a3 h3
  exact rights_any _ _ _ _ _ _ _ _ _ _ _ (opTab_of_laid hL) hr hn
end Go.Proofs.YtecolkpnllikaaaDoor
