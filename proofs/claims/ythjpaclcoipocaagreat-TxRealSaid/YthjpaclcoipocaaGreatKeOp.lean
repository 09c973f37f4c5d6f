/- Digests, and slices of digests, that come in, opened. Condition: the row's own. -/
import Derived.Test.YthjpaclcoipocaaGreatOpenB
import Derived.Test.YthjpaclcoipocaaGreatKeD
namespace Go.Proofs.YthjpaclcoipocaaGreat
open Go.ChangeShapes Go.WideShapes Go.ChangeAt Go.RowKit Go.Joins Go.Deep

section
variable {H : Type} {enc : TypeId × Value → H} {W : World} {base : Nat}
theorem cellsD : Tryz.prog.cellsOf 22 = 8 := by kernel_rfl
theorem okWide_arr {P : Program} {w : World} {r : Reach} {b t e : TypeId} {n : Nat} {v : Value} (ht : P.underlying t = some (.array n e)) (h : Value.okWide P w r b t v) : ∃ cs, v = .agg cs ∧ cs.size = P.cellsOf t := by
  simp only [Value.okWide, ht] at h
  obtain ⟨cs, h1, h2, _⟩ := h
  exact ⟨cs, h1, h2⟩
set_option maxRecDepth 100000 in
theorem open_dig {v : Value} {d : DataW H} {p : List MemPlace} (a0 : Value.okWide Tryz.prog W .any base 22 v) (h0 : DataW.Trod enc Tryz.prog W 0 (fun _ => true) true 22 v d p) : ∃ x : D8, v = .agg #[.int .u8 (x.x0 : Int), .int .u8 (x.x1 : Int), .int .u8 (x.x2 : Int), .int .u8 (x.x3 : Int), .int .u8 (x.x4 : Int), .int .u8 (x.x5 : Int), .int .u8 (x.x6 : Int), .int .u8 (x.x7 : Int)] ∧ x.ok := by
  obtain ⟨cs, rfl, _⟩ : ∃ cs, v = .agg cs ∧ cs.size = Tryz.prog.cellsOf 22 := okWide_arr Tryz.underlying22 a0
  obtain ⟨fuel, hf⟩ := h0
  obtain ⟨x, hx, ok⟩ := d8_of_cells Tryz.underlying22 cellsD hf
  obtain ⟨l⟩ := cs
  simp only [Value.cells] at hx
  subst hx
  exact ⟨x, rfl, ok⟩
set_option maxRecDepth 100000 in
theorem open_u8 {v : Value} {d : DataW H} {p : List MemPlace} (a0 : Value.okWide Tryz.prog W .any base 5 v) (h0 : DataW.Trod enc Tryz.prog W 0 (fun _ => true) true 5 v d p) : ∃ b : Nat, v = .int .u8 (b : Int) ∧ b < 256 := by
  obtain ⟨n, rfl, _, _, hw⟩ := open_int Tryz.underlying5 a0 h0
  simp [Lit.wf, show IntKind.u8.min = 0 from rfl, show IntKind.u8.max = 255 from rfl] at hw
  obtain ⟨b, rfl⟩ := Int.eq_ofNat_of_zero_le hw.1
  exact ⟨b, rfl, by omega⟩
set_option maxRecDepth 100000 in
theorem open_digs {t : TypeId} {v : Value} {d : DataW H} {p : List MemPlace} (ht : Tryz.prog.underlying t = some (.slice 22))
    (a0 : Value.okWide Tryz.prog W .any base t v) (h0 : DataW.Trod enc Tryz.prog W 0 (fun _ => true) true t v d p) :
    ∃ A n c l, v = .slice A n c ∧ Rd W W.heap.size 8 A n (flatD l) ∧ ∀ x ∈ l, x.ok := by
  obtain ⟨A, n, c, rfl⟩ := okWide_slice ht a0
  obtain ⟨fuel, hf⟩ := h0
  rcases open_slice ht hf with ⟨hcs, _⟩ | ⟨a, len, cap, m, k, D, Pl, hcs, _, hlc, hcm, hm, _, hi⟩
  · simp [Value.cells] at hcs
    obtain ⟨rfl, rfl, rfl⟩ := hcs
    exact ⟨_, _, _, [], rfl, Rd.empty, by simp⟩
  · simp [Value.cells] at hcs
    obtain ⟨rfl, rfl, rfl⟩ := hcs
    have hmn : n ≤ m := by rw [hm]; split <;> omega
    have hall : ∀ i, ∃ s : D8, s.ok ∧ (i < n → ∀ j, j < 8 → W.cell? (a.add (i * 8 + j)) = s.cells[j]?) := by
      intro i
      by_cases hin : i < n
      · obtain ⟨cs', hc, ht'⟩ := hi i (by omega)
        rw [cellsD] at hc
        obtain ⟨_, hcl, hat⟩ := World.cells?_some hc
        obtain ⟨s, rfl, hsm⟩ := d8_of_cells Tryz.underlying22 cellsD ht'
        exact ⟨s, hsm, fun _ j hj => by rw [← addr_add]; exact hat j hj⟩
      · exact ⟨D8.zero, D8.zero_ok, fun h => absurd h hin⟩
    let f := fun i => Classical.choose (hall i)
    have hfs : ∀ i, i < n → ∀ j, j < 8 → W.cell? (a.add (i * 8 + j)) = (f i).cells[j]? := fun i => (Classical.choose_spec (hall i)).2
    have hfm : ∀ i, (f i).ok := fun i => (Classical.choose_spec (hall i)).1
    refine ⟨_, _, _, (List.range n).map f, rfl, ?_, fun x hx => by obtain ⟨i, _, rfl⟩ := List.mem_map.1 hx; exact hfm i⟩
    refine ⟨by rw [flatD_len]; simp, fun hn => ?_⟩
    have h00 := hfs 0 hn 0 (by omega)
    have hsp : a.spot = none := by
      have h1 : W.cell? (a.add 0) = some (.int .u8 ((f 0).x0 : Int)) := h00
      exact addr_spot h1 rfl
    refine ⟨a.block, a.off, by cases a; simp_all, ?_, fun j u hu => ?_⟩
    · have h1 : W.cell? (a.add 0) = some (.int .u8 ((f 0).x0 : Int)) := h00
      rw [addr_flat hsp] at h1
      exact World.block_lt_of_cell? W ⟨a.block, a.off + 0, none⟩ h1
    · have hjl : j < n * 8 := by
        have := (List.getElem?_eq_some_iff.1 hu).1
        rw [flatD_len] at this; simpa using this
      have e := flatD_at ((List.range n).map f) (j / 8) (j % 8) (by simp; omega) (by omega)
      have ej : j / 8 * 8 + j % 8 = j := by omega
      rw [ej, hu] at e
      have h2 := hfs (j / 8) (by omega) (j % 8) (by omega)
      rw [ej, addr_flat hsp] at h2
      rw [h2, e]
      have hdn : j / 8 < n := by omega
      simp [List.getD_eq_getElem?_getD, hdn]
end
end Go.Proofs.YthjpaclcoipocaaGreat
