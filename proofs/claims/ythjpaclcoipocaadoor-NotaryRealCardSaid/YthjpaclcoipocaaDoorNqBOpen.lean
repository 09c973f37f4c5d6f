/- What NotaryReal is handed, opened. Condition: the row's own. -/
import Derived.Test.YthjpaclcoipocaaDoorOpenB
import Derived.Test.YthjpaclcoipocaaDoorNqB
namespace Go.Proofs.YthjpaclcoipocaaDoor
open Go.ChangeShapes Go.WideShapes Go.ChangeAt Go.RowKit Go.Joins Go.Deep
section
variable {H : Type} {enc : TypeId × Value → H} {W : World} {base : Nat}
theorem num_of_cells {n : Nat} {spare : Nat → Bool} {held : Bool} {cs : List Value} {x : DataW H × List MemPlace} (h : DataW.trod enc Tryd.prog W base spare held n 22 cs = some x) : ∃ b : Nat, cs = [.int .u64 (b : Int)] ∧ b < 18446744073709551616 := by
  obtain ⟨m, rfl, _, hw⟩ := DataW.trod_int Tryd.underlying22 h
  simp [Lit.wf, show IntKind.u64.min = 0 from rfl, show IntKind.u64.max = 18446744073709551615 from rfl] at hw
  obtain ⟨h0, h1⟩ := hw
  obtain ⟨b, rfl⟩ := Int.eq_ofNat_of_zero_le h0
  exact ⟨b, rfl, by omega⟩
theorem cellsU64 : Tryd.prog.cellsOf 22 = 1 := by kernel_rfl
set_option maxRecDepth 100000 in
theorem nums_of_cells {T : TypeId} (hT : Tryd.prog.underlying T = some (.slice 22)) {n : Nat} {cs : List Value} {x : DataW H × List MemPlace} (h : DataW.trod enc Tryd.prog W 0 (fun _ => true) true n T cs = some x) :
    ∃ A m c l, cs = [.slice A m c] ∧ Rd W W.heap.size 1 A m (bvU l) ∧ m ≤ c ∧ m ≤ 9223372036854775807 ∧ ∀ y ∈ l, y < 18446744073709551616 := by
  rcases open_slice hT h with ⟨hcs, _⟩ | ⟨a, len, cap, m, k, D, Pl, hcs, _, hlc, hcm, hm, _, hi⟩
  · exact ⟨none, 0, 0, [], hcs, Rd.empty, by omega, by omega, by simp⟩
  · have hmn : len ≤ m := by rw [hm]; split <;> omega
    have hall : ∀ i, ∃ s : Nat, s < 18446744073709551616 ∧ (i < len → W.cell? (a.add i) = some (.int .u64 (s : Int))) := by
      intro i
      by_cases hin : i < len
      · obtain ⟨cs', hc, ht'⟩ := hi i (by omega)
        rw [cellsU64] at hc
        obtain ⟨_, hcl, hat⟩ := World.cells?_some hc
        obtain ⟨s, rfl, hs⟩ := num_of_cells ht'
        refine ⟨s, hs, fun _ => ?_⟩
        have := hat 0 (by omega)
        rw [addr_add] at this
        simpa using this
      · exact ⟨0, by omega, fun h => absurd h hin⟩
    let f := fun i => Classical.choose (hall i)
    have hf1 : ∀ i, f i < 18446744073709551616 := fun i => (Classical.choose_spec (hall i)).1
    have hfs : ∀ i, i < len → W.cell? (a.add i) = some (.int .u64 ((f i : Nat) : Int)) := fun i => (Classical.choose_spec (hall i)).2
    refine ⟨_, _, _, (List.range len).map f, hcs, ⟨by simp [bvU], fun hn => ?_⟩, hlc, by simp only [maxLen] at hcm; omega, ?_⟩
    · have h0 := hfs 0 hn
      have hsp : a.spot = none := addr_spot h0 rfl
      refine ⟨a.block, a.off, by cases a; simp_all, ?_, fun j u hu => ?_⟩
      · rw [addr_flat hsp] at h0
        exact World.block_lt_of_cell? W ⟨a.block, a.off + 0, none⟩ h0
      · have hj : j < len := by
          have := (List.getElem?_eq_some_iff.1 hu).1
          simpa [bvU] using this
        have h2 := hfs j hj
        rw [addr_flat hsp] at h2
        rw [h2, ← hu]
        simp [bvU, hj]
    · intro y hy
      obtain ⟨i, _, rfl⟩ := List.mem_map.1 hy
      exact hf1 i
set_option maxRecDepth 100000 in
theorem open_nums {t : TypeId} {v : Value} {d : DataW H} {p : List MemPlace} (ht : Tryd.prog.underlying t = some (.slice 22))
    (a0 : Value.okWide Tryd.prog W .any base t v) (h0 : DataW.Trod enc Tryd.prog W 0 (fun _ => true) true t v d p) :
    ∃ A n c l, v = .slice A n c ∧ Rd W W.heap.size 1 A n (bvU l) ∧ ∀ y ∈ l, y < 18446744073709551616 := by
  obtain ⟨A, n, c, rfl⟩ := okWide_slice ht a0
  obtain ⟨fuel, hf⟩ := h0
  obtain ⟨A', m, c', l, h1, h2, _, _, h3⟩ := nums_of_cells ht hf
  simp [Value.cells] at h1
  obtain ⟨rfl, rfl, rfl⟩ := h1
  exact ⟨_, _, _, l, rfl, h2, h3⟩
set_option maxRecDepth 100000 in
theorem open_u8Q {v : Value} {d : DataW H} {p : List MemPlace} (a0 : Value.okWide Tryd.prog W .any base 5 v) (h0 : DataW.Trod enc Tryd.prog W 0 (fun _ => true) true 5 v d p) : ∃ b : Nat, v = .int .u8 (b : Int) ∧ b < 256 := by
  obtain ⟨n, rfl, _, _, hw⟩ := open_int Tryd.underlying5 a0 h0
  simp [Lit.wf, show IntKind.u8.min = 0 from rfl, show IntKind.u8.max = 255 from rfl] at hw
  obtain ⟨b, rfl⟩ := Int.eq_ofNat_of_zero_le hw.1
  exact ⟨b, rfl, by omega⟩
set_option maxRecDepth 100000 in
theorem open_u64Q {v : Value} {d : DataW H} {p : List MemPlace} (a0 : Value.okWide Tryd.prog W .any base 22 v) (h0 : DataW.Trod enc Tryd.prog W 0 (fun _ => true) true 22 v d p) : ∃ b : Nat, v = .int .u64 (b : Int) ∧ b < 18446744073709551616 := by
  obtain ⟨n, rfl, _, _, hw⟩ := open_int Tryd.underlying22 a0 h0
  simp [Lit.wf, show IntKind.u64.min = 0 from rfl, show IntKind.u64.max = 18446744073709551615 from rfl] at hw
  obtain ⟨b, rfl⟩ := Int.eq_ofNat_of_zero_le hw.1
  exact ⟨b, rfl, by omega⟩
end
set_option maxRecDepth 100000 in
theorem notaryReal_open {H : Type} {enc : TypeId × Value → H} {W : World} {base : Nat} {v0 v1 v2 : Value} {d0 d1 d2 : DataW H} {p0 p1 p2 : List MemPlace} {q q2 : Prop}
    (a0 : Value.okWide Tryd.prog W .any base 22 v0) (a1 : Value.okWide Tryd.prog W .any base 5 v1) (a2 : Value.okWide Tryd.prog W .any base 23 v2)
    (h0 : DataW.Trod enc Tryd.prog W 0 (fun _ => true) true 22 v0 d0 p0) (h1 : DataW.Trod enc Tryd.prog W 0 (fun _ => true) true 5 v1 d1 p1) (h2 : DataW.Trod enc Tryd.prog W 0 (fun _ => true) true 23 v2 d2 p2) (_hq : q) (_hq2 : q2) :
    Calls Tryd.prog 3 #[v0, v1, v2] W fun e w' => e = .returned (.bool true) ∧ Below W.heap.size W w' := by
  obtain ⟨s0, rfl, hs0⟩ := open_u64Q a0 h0
  obtain ⟨h, rfl, hh⟩ := open_u8Q a1 h1
  obtain ⟨A, n, c, l, rfl, hr, hl⟩ := open_nums Tryd.underlying23 a2 h2
  exact nreal_any s0 h A n c l W hs0 hh hr hl
end Go.Proofs.YthjpaclcoipocaaDoor
