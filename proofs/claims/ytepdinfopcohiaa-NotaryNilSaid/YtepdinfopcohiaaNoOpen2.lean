/- Slices of bytes and of numbers that come in, opened to lists; what NotaryBooks is handed, opened. Condition: the row's own. -/
import Derived.Test.YtepdinfopcohiaaNoOpen
import Derived.Test.YtepdinfopcohiaaNoR
namespace Go.Proofs.Ytepdinfopcohiaa
open Go.ChangeShapes Go.WideShapes Go.ChangeAt Go.RowKit Go.Joins Go.Deep
section
variable {H : Type} {enc : TypeId × Value → H} {W : World} {base : Nat}
theorem num_of_cells {n : Nat} {spare : Nat → Bool} {held : Bool} {cs : List Value} {x : DataW H × List MemPlace} (h : DataW.trod enc Try.prog W base spare held n 34 cs = some x) : ∃ b : Nat, cs = [.int .u64 (b : Int)] ∧ b < 18446744073709551616 := by
  obtain ⟨m, rfl, _, hw⟩ := DataW.trod_int Try.underlying34 h
  simp [Lit.wf, show IntKind.u64.min = 0 from rfl, show IntKind.u64.max = 18446744073709551615 from rfl] at hw
  obtain ⟨h0, h1⟩ := hw
  obtain ⟨b, rfl⟩ := Int.eq_ofNat_of_zero_le h0
  exact ⟨b, rfl, by omega⟩
theorem cellsU64 : Try.prog.cellsOf 34 = 1 := by kernel_rfl
set_option maxRecDepth 100000 in
theorem bytes_of_cells {T : TypeId} (hT : Try.prog.underlying T = some (.slice 5)) {n : Nat} {cs : List Value} {x : DataW H × List MemPlace} (h : DataW.trod enc Try.prog W 0 (fun _ => true) true n T cs = some x) :
    ∃ A m c l, cs = [.slice A m c] ∧ Rd W W.heap.size 1 A m (bvN l) ∧ m ≤ c ∧ m ≤ 9223372036854775807 ∧ ∀ y ∈ l, y < 256 := by
  rcases open_slice hT h with ⟨hcs, _⟩ | ⟨a, len, cap, m, k, D, Pl, hcs, _, hlc, hcm, hm, _, hi⟩
  · exact ⟨none, 0, 0, [], hcs, Rd.empty, by omega, by omega, by simp⟩
  · have hmn : len ≤ m := by rw [hm]; split <;> omega
    have hall : ∀ i, ∃ s : Nat, s < 256 ∧ (i < len → W.cell? (a.add i) = some (.int .u8 (s : Int))) := by
      intro i
      by_cases hin : i < len
      · obtain ⟨cs', hc, ht'⟩ := hi i (by omega)
        rw [cellsU8] at hc
        obtain ⟨_, hcl, hat⟩ := World.cells?_some hc
        obtain ⟨s, rfl, hs⟩ := byte_of_cells ht'
        refine ⟨s, hs, fun _ => ?_⟩
        have := hat 0 (by omega)
        rw [addr_add] at this
        simpa using this
      · exact ⟨0, by omega, fun h => absurd h hin⟩
    let f := fun i => Classical.choose (hall i)
    have hf1 : ∀ i, f i < 256 := fun i => (Classical.choose_spec (hall i)).1
    have hfs : ∀ i, i < len → W.cell? (a.add i) = some (.int .u8 ((f i : Nat) : Int)) := fun i => (Classical.choose_spec (hall i)).2
    refine ⟨_, _, _, (List.range len).map f, hcs, ⟨by simp [bvN], fun hn => ?_⟩, hlc, by simp only [maxLen] at hcm; omega, ?_⟩
    · have h0 := hfs 0 hn
      have hsp : a.spot = none := addr_spot h0 rfl
      refine ⟨a.block, a.off, by cases a; simp_all, ?_, fun j u hu => ?_⟩
      · rw [addr_flat hsp] at h0
        exact World.block_lt_of_cell? W ⟨a.block, a.off + 0, none⟩ h0
      · have hj : j < len := by
          have := (List.getElem?_eq_some_iff.1 hu).1
          simpa [bvN] using this
        have h2 := hfs j hj
        rw [addr_flat hsp] at h2
        rw [h2, ← hu]
        simp [bvN, hj]
    · intro y hy
      obtain ⟨i, _, rfl⟩ := List.mem_map.1 hy
      exact hf1 i
set_option maxRecDepth 100000 in
theorem open_bytes {t : TypeId} {v : Value} {d : DataW H} {p : List MemPlace} (ht : Try.prog.underlying t = some (.slice 5))
    (a0 : Value.okWide Try.prog W .any base t v) (h0 : DataW.Trod enc Try.prog W 0 (fun _ => true) true t v d p) :
    ∃ A n c l, v = .slice A n c ∧ Rd W W.heap.size 1 A n (bvN l) ∧ ∀ y ∈ l, y < 256 := by
  obtain ⟨A, n, c, rfl⟩ := okWide_slice ht a0
  obtain ⟨fuel, hf⟩ := h0
  obtain ⟨A', m, c', l, h1, h2, _, _, h3⟩ := bytes_of_cells ht hf
  simp [Value.cells] at h1
  obtain ⟨rfl, rfl, rfl⟩ := h1
  exact ⟨_, _, _, l, rfl, h2, h3⟩
set_option maxRecDepth 100000 in
theorem nums_of_cells {T : TypeId} (hT : Try.prog.underlying T = some (.slice 34)) {n : Nat} {cs : List Value} {x : DataW H × List MemPlace} (h : DataW.trod enc Try.prog W 0 (fun _ => true) true n T cs = some x) :
    ∃ A m c l, cs = [.slice A m c] ∧ Rd W W.heap.size 1 A m (bv64 l) ∧ m ≤ c ∧ m ≤ 9223372036854775807 ∧ ∀ y ∈ l, y < 18446744073709551616 := by
  rcases open_slice hT h with ⟨hcs, _⟩ | ⟨a, len, cap, m, k, D, Pl, hcs, _, hlc, hcm, hm, _, hi⟩
  · exact ⟨none, 0, 0, [], hcs, Rd.empty, by omega, by omega, by simp⟩
  · have hmn : len ≤ m := by rw [hm]; split <;> omega
    have hall : ∀ i, ∃ s : Nat, s < 18446744073709551616 ∧ (i < len → W.cell? (a.add i) = some (.int .u64 (s : Int))) := by
      intro i
      by_cases hin : i < len
      · obtain ⟨cs', hc, ht'⟩ := hi i (by omega)
        rw [cellsU64] at hc
        obtain ⟨_, hcl, hat⟩ := World.cells?_some hc
        obtain ⟨s, rfl, hs⟩ := num_of_cells ht'
        refine ⟨s, hs, fun _ => ?_⟩
        have := hat 0 (by omega)
        rw [addr_add] at this
        simpa using this
      · exact ⟨0, by omega, fun h => absurd h hin⟩
    let f := fun i => Classical.choose (hall i)
    have hf1 : ∀ i, f i < 18446744073709551616 := fun i => (Classical.choose_spec (hall i)).1
    have hfs : ∀ i, i < len → W.cell? (a.add i) = some (.int .u64 ((f i : Nat) : Int)) := fun i => (Classical.choose_spec (hall i)).2
    refine ⟨_, _, _, (List.range len).map f, hcs, ⟨by simp [bv64], fun hn => ?_⟩, hlc, by simp only [maxLen] at hcm; omega, ?_⟩
    · have h0 := hfs 0 hn
      have hsp : a.spot = none := addr_spot h0 rfl
      refine ⟨a.block, a.off, by cases a; simp_all, ?_, fun j u hu => ?_⟩
      · rw [addr_flat hsp] at h0
        exact World.block_lt_of_cell? W ⟨a.block, a.off + 0, none⟩ h0
      · have hj : j < len := by
          have := (List.getElem?_eq_some_iff.1 hu).1
          simpa [bv64] using this
        have h2 := hfs j hj
        rw [addr_flat hsp] at h2
        rw [h2, ← hu]
        simp [bv64, hj]
    · intro y hy
      obtain ⟨i, _, rfl⟩ := List.mem_map.1 hy
      exact hf1 i
set_option maxRecDepth 100000 in
theorem open_nums {t : TypeId} {v : Value} {d : DataW H} {p : List MemPlace} (ht : Try.prog.underlying t = some (.slice 34))
    (a0 : Value.okWide Try.prog W .any base t v) (h0 : DataW.Trod enc Try.prog W 0 (fun _ => true) true t v d p) :
    ∃ A n c l, v = .slice A n c ∧ Rd W W.heap.size 1 A n (bv64 l) ∧ ∀ y ∈ l, y < 18446744073709551616 := by
  obtain ⟨A, n, c, rfl⟩ := okWide_slice ht a0
  obtain ⟨fuel, hf⟩ := h0
  obtain ⟨A', m, c', l, h1, h2, _, _, h3⟩ := nums_of_cells ht hf
  simp [Value.cells] at h1
  obtain ⟨rfl, rfl, rfl⟩ := h1
  exact ⟨_, _, _, l, rfl, h2, h3⟩
theorem open_le1 {v : Value} {d : DataW H} {p : List MemPlace} (a0 : Value.okWide Try.prog W .any base 36 v) (h0 : DataW.Trod enc Try.prog W 0 (fun _ => true) true 36 v d p) :
    ∃ e : Nu, v = .agg #[.int .u8 (e.k : Int), .int .u8 (e.m : Int)] ∧ e.small := by
  obtain ⟨c0, c1, y0, y1, m, rfl, rfl, rfl, g0, g1⟩ := open_agg2 Try.underlying36 (by kernel_rfl) cellsLe a0 h0
  obtain ⟨x0, e0, l0⟩ := byte_of_cells g0
  obtain ⟨x1, e1, l1⟩ := byte_of_cells g1
  simp only [List.cons.injEq, and_true] at e0 e1
  subst e0 e1
  exact ⟨⟨x0, x1⟩, rfl, l0, l1⟩
end
set_option maxRecDepth 100000 in
theorem notaryBooks_open {H : Type} {enc : TypeId × Value → H} {W : World} {base : Nat} {v0 v1 v2 : Value} {d0 d1 d2 : DataW H} {p0 p1 p2 : List MemPlace} {q : Prop}
    (a0 : Value.okWide Try.prog W .any base 22 v0) (a1 : Value.okWide Try.prog W .any base 36 v1) (a2 : Value.okWide Try.prog W .any base 37 v2)
    (h0 : DataW.Trod enc Try.prog W 0 (fun _ => true) true 22 v0 d0 p0) (h1 : DataW.Trod enc Try.prog W 0 (fun _ => true) true 36 v1 d1 p1) (h2 : DataW.Trod enc Try.prog W 0 (fun _ => true) true 37 v2 d2 p2) (_hq : q) :
    Calls Try.prog 5 #[v0, v1, v2] W fun e w' => e = .returned (.bool true) ∧ Below W.heap.size W w' := by
  obtain ⟨A, n, c, l, rfl, hr, hs⟩ := open_le Try.underlying22 a0 h0
  obtain ⟨e, rfl, he⟩ := open_le1 a1 h1
  obtain ⟨As, ms, cs, s, rfl, hrs, hss⟩ := open_bytes Try.underlying37 a2 h2
  exact books_any l A n c e As ms cs s W hr hs he hrs hss
end Go.Proofs.Ytepdinfopcohiaa
