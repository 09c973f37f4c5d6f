/- Bytes that come in, opened. Condition: the row's own. -/
import Derived.Test.YtecolkpnllikaaaDoorOpenIns
import Derived.Test.YtecolkpnllikaaaDoorRanges
import Derived.Test.YtecolkpnllikaaaDoorOct
namespace Go.Proofs.YtecolkpnllikaaaDoor
open Go.ChangeShapes Go.WideShapes Go.ChangeAt Go.RowKit Go.Joins Go.Deep
section
variable {H : Type} {enc : TypeId × Value → H} {W : World} {base : Nat}
theorem cellsU8 : Tryd.prog.cellsOf 5 = 1 := by kernel_rfl
theorem byte_of_cells {n : Nat} {spare : Nat → Bool} {held : Bool} {cs : List Value} {x : DataW H × List MemPlace} (h : DataW.trod enc Tryd.prog W base spare held n 5 cs = some x) : ∃ b : Nat, cs = [.int .u8 (b : Int)] ∧ b < 256 := by
  obtain ⟨m, rfl, _, hw⟩ := DataW.trod_int Tryd.underlying5 h
  obtain ⟨h0, h1⟩ := wf_u8 hw
  obtain ⟨b, rfl⟩ := Int.eq_ofNat_of_zero_le h0
  exact ⟨b, rfl, by omega⟩
set_option maxRecDepth 100000 in
theorem bytes_of_cells {T : TypeId} (hT : Tryd.prog.underlying T = some (.slice 5)) {n : Nat} {cs : List Value} {x : DataW H × List MemPlace} (h : DataW.trod enc Tryd.prog W 0 (fun _ => true) true n T cs = some x) :
    ∃ A m c l, cs = [.slice A m c] ∧ Rd W W.heap.size 1 A m (bv l) ∧ m ≤ c ∧ m ≤ 9223372036854775807 ∧ ∀ y ∈ l, y < 256 := by
  rcases open_slice hT h with ⟨hcs, _⟩ | ⟨a, len, cap, m, k, D, Pl, hcs, _, hlc, hcm, hm, _, hi⟩
  · exact ⟨none, 0, 0, [], hcs, Rd.empty, by omega, by omega, by simp⟩
  · have hmn : len ≤ m := by rw [hm]; split <;> omega
    have hall : ∀ i, ∃ s : Nat, s < 256 ∧ (i < len → W.cell? (a.add i) = some (.int .u8 (s : Int))) := by
      intro i
      by_cases hin : i < len
      · obtain ⟨cs', hc, ht'⟩ := hi i (by omega)
        rw [cellsU8] at hc
        obtain ⟨_, hcl, hat⟩ := World.cells?_some hc
        obtain ⟨s, rfl, hs⟩ := byte_of_cells ht'
        refine ⟨s, hs, fun _ => ?_⟩
        have := hat 0 (by omega)
        rw [addr_add] at this
        simpa using this
      · exact ⟨0, by omega, fun h => absurd h hin⟩
    let f := fun i => Classical.choose (hall i)
    have hf1 : ∀ i, f i < 256 := fun i => (Classical.choose_spec (hall i)).1
    have hfs : ∀ i, i < len → W.cell? (a.add i) = some (.int .u8 ((f i : Nat) : Int)) := fun i => (Classical.choose_spec (hall i)).2
    refine ⟨_, _, _, (List.range len).map f, hcs, ⟨by simp [bv], fun hn => ?_⟩, hlc, by simp only [maxLen] at hcm; omega, ?_⟩
    · have h0 := hfs 0 hn
      have hsp : a.spot = none := addr_spot h0 rfl
      refine ⟨a.block, a.off, by cases a; simp_all, ?_, fun j u hu => ?_⟩
      · rw [addr_flat hsp] at h0
        exact World.block_lt_of_cell? W ⟨a.block, a.off + 0, none⟩ h0
      · have hjl : j < len := by
          have := (List.getElem?_eq_some_iff.1 hu).1
          simpa [bv] using this
        have h2 := hfs j hjl
        rw [addr_flat hsp] at h2
        rw [h2, ← hu]
        simp [bv, hjl]
    · intro y hy
      simp only [List.mem_map] at hy
      obtain ⟨i, _, rfl⟩ := hy
      exact hf1 i
set_option maxRecDepth 100000 in
theorem open_octets {v : Value} {d : DataW H} {p : List MemPlace} (a0 : Value.okWide Tryd.prog W .any base 48 v) (h0 : DataW.Trod enc Tryd.prog W 0 (fun _ => true) true 48 v d p) :
    ∃ (L : Option Addr) (m c : Nat) (l : List Nat), v = .slice L m c ∧ Rd W W.heap.size 1 L m (bv l) ∧ m ≤ c ∧ m ≤ 9223372036854775807 ∧ ∀ x ∈ l, x < 256 := by
  obtain ⟨A, n, c, rfl⟩ := okWide_slice Tryd.underlying48 a0
  obtain ⟨fuel, hf⟩ := h0
  obtain ⟨A', m, c', l, e, hr, hc, hm, hg⟩ := bytes_of_cells Tryd.underlying48 hf
  simp [Value.cells] at e
  obtain ⟨rfl, rfl, rfl⟩ := e
  exact ⟨_, _, _, l, rfl, hr, hc, hm, hg⟩
end
end Go.Proofs.YtecolkpnllikaaaDoor
