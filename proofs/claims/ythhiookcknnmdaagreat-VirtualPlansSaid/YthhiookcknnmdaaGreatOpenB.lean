/- Bytes and digests that come in, opened. Condition: the row's own. -/
import Derived.Test.YthhiookcknnmdaaGreatProg
import Derived.Test.YthhiookcknnmdaaGreatWords
import Derived.Test.YthhiookcknnmdaaGreatJoinX
import Derived.Test.YthhiookcknnmdaaGreatJoinA
import Derived.Lib.SmallJoins
import Derived.Deep.Slices
import Derived.OpenShut
namespace Go.Proofs.YthhiookcknnmdaaGreat
open Go.ChangeShapes Go.WideShapes Go.ChangeAt Go.RowKit Go.Joins Go.Deep


section
variable {H : Type} {enc : TypeId × Value → H} {W : World} {base : Nat}
theorem cellsU8 : Tryz.prog.cellsOf 5 = 1 := by kernel_rfl
theorem addr_add (a : Addr) (i j : Nat) : (a.add i).add j = a.add (i + j) := by
 unfold Addr.add
 by_cases hi : i = 0 <;> by_cases hj : j = 0 <;> simp [hi, hj, Nat.add_assoc]
theorem addr_flat {a : Addr} (h : a.spot = none) (i : Nat) : a.add i = ⟨a.block, a.off + i, none⟩ := by
 unfold Addr.add
 split
 ·subst_vars; cases a; simp_all
 ·rfl
theorem addr_spot {a : Addr} {i : Nat} {w : World} {v : Value} (h : w.cell? (a.add i) = some v) (hi : i = 0) : a.spot = none := by
 subst hi
 have := World.cell?_spot h
 simpa [Addr.add] using this
theorem byte_of_cells {n : Nat} {spare : Nat → Bool} {held : Bool} {cs : List Value} {x : DataW H × List MemPlace} (h : DataW.trod enc Tryz.prog W base spare held n 5 cs = some x) : ∃ b : Nat, cs = [.int .u8 b] ∧ b < 256 := by
 obtain ⟨m, rfl, _, hw⟩ := DataW.trod_int Tryz.underlying5 h
 obtain ⟨h0, h1⟩ := wf_u8 hw
 obtain ⟨b, rfl⟩ := Int.eq_ofNat_of_zero_le h0
 exact ⟨b, rfl, by omega⟩
theorem d8_of_cells {T : TypeId} (hT : Tryz.prog.underlying T = some (.array 8 5)) (hC : Tryz.prog.cellsOf T = 8) {n : Nat} {spare : Nat → Bool} {held : Bool} {cs : List Value} {x : DataW H × List MemPlace} (h : DataW.trod enc Tryz.prog W base spare held n T cs = some x) : ∃ d : D8, cs = [.int .u8 d.x0, .int .u8 d.x1, .int .u8 d.x2, .int .u8 d.x3, .int .u8 d.x4, .int .u8 d.x5, .int .u8 d.x6, .int .u8 d.x7] ∧ d.ok := by
 obtain ⟨xs, m, _, _, hl, hx, hi⟩ := DataW.trod_array hT h
 rw [hC] at hl
 rw [cellsU8] at hi
 have get : ∀ i, i < 8 → ∃ b : Nat, (cs.drop (i * 1)).take 1 = [.int .u8 b] ∧ b < 256 := fun i hi8 => by
  have h1 := hi i hi8
  rw [List.getElem?_eq_getElem (by omega)] at h1
  exact byte_of_cells h1
 obtain ⟨b0, e0, l0⟩ := get 0 (by omega)
 obtain ⟨b1, e1, l1⟩ := get 1 (by omega)
 obtain ⟨b2, e2, l2⟩ := get 2 (by omega)
 obtain ⟨b3, e3, l3⟩ := get 3 (by omega)
 obtain ⟨b4, e4, l4⟩ := get 4 (by omega)
 obtain ⟨b5, e5, l5⟩ := get 5 (by omega)
 obtain ⟨b6, e6, l6⟩ := get 6 (by omega)
 obtain ⟨b7, e7, l7⟩ := get 7 (by omega)
 match cs, hl with
 | [c0, c1, c2, c3, c4, c5, c6, c7], _ =>
  simp at e0 e1 e2 e3 e4 e5 e6 e7
  exact ⟨⟨b0, b1, b2, b3, b4, b5, b6, b7⟩, by simp [e0, e1, e2, e3, e4, e5, e6, e7], l0, l1, l2, l3, l4, l5, l6, l7⟩
set_option maxRecDepth 100000 in
theorem bytes_of_cells {T : TypeId} (hT : Tryz.prog.underlying T = some (.slice 5)) {n : Nat} {cs : List Value} {x : DataW H × List MemPlace} (h : DataW.trod enc Tryz.prog W 0 (fun _ => true) true n T cs = some x) :
  ∃ A m c l, cs = [.slice A m c] ∧ Rd W W.heap.size 1 A m (bv l) ∧ m ≤ c ∧ m ≤ 9223372036854775807 ∧ ∀ y ∈ l, y < 256 := by
 rcases open_slice hT h with ⟨hcs, _⟩ | ⟨a, len, cap, m, k, D, Pl, hcs, _, hlc, hcm, hm, _, hi⟩
 ·exact ⟨none, 0, 0, [], hcs, Rd.empty, by omega, by omega, by simp⟩
 ·have hmn : len ≤ m := by rw [hm]; split <;> omega
  have hall : ∀ i, ∃ s : Nat, s < 256 ∧ (i < len → W.cell? (a.add i) = some (.int .u8 s)) := by
   intro i
   by_cases hin : i < len
   ·obtain ⟨cs', hc, ht'⟩ := hi i (by omega)
    rw [cellsU8] at hc
    obtain ⟨_, hcl, hat⟩ := World.cells?_some hc
    obtain ⟨s, rfl, hs⟩ := byte_of_cells ht'
    refine ⟨s, hs, fun _ => ?_⟩
    have := hat 0 (by omega)
    rw [addr_add] at this
    simpa using this
   ·exact ⟨0, by omega, fun h => absurd h hin⟩
  let f := fun i => Classical.choose (hall i)
  have hf1 : ∀ i, f i < 256 := fun i => (Classical.choose_spec (hall i)).1
  have hfs : ∀ i, i < len → W.cell? (a.add i) = some (.int .u8 ((f i : Nat) : Int)) := fun i => (Classical.choose_spec (hall i)).2
  refine ⟨_, _, _, (List.range len).map f, hcs, ⟨by simp [bv], fun hn => ?_⟩, hlc, by simp only [maxLen] at hcm; omega, ?_⟩
  ·have h0 := hfs 0 hn
   have hsp : a.spot = none := addr_spot h0 rfl
   refine ⟨a.block, a.off, by cases a; simp_all, ?_, fun j u hu => ?_⟩
   ·rw [addr_flat hsp] at h0
    exact World.block_lt_of_cell? W ⟨a.block, a.off + 0, none⟩ h0
   ·have hjl : j < len := by
     have := (List.getElem?_eq_some_iff.1 hu).1
     simpa [bv] using this
    have h2 := hfs j hjl
    rw [addr_flat hsp] at h2
    rw [h2, ← hu]
    simp [bv, hjl]
  ·intro y hy
   simp only [List.mem_map] at hy
   obtain ⟨i, _, rfl⟩ := hy
   exact hf1 i
end
end Go.Proofs.YthhiookcknnmdaaGreat
