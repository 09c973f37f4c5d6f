/- Slices of slices, as reading rows. Nothing of the program stands in it, so there is no condition. -/
import Derived.Test.YthhiookcknnmdaaGreatProg
import Derived.Test.YthhiookcknnmdaaGreatWords
import Derived.Laws.Slices
namespace Go.Proofs.YthhiookcknnmdaaGreat
open Go.RowKit Go.Lib

section
variable {P : Program} {w : World} {B sz n c : Nat} {A : Option Addr} {xs : List Value} {t e : TypeId}
def cutA (A : Option Addr) (c k sz : Nat) : Option Addr := if c = k then A else A.map (·.add (k * sz))
theorem rd_cut (h : Rd w B sz A n xs) (hn : n ≤ c) {l m : Nat} (hl : l ≤ m) (hm : m ≤ n) : Rd w B sz (cutA A c l sz) (m - l) ((xs.drop (l * sz)).take ((m - l) * sz)) := by
 have hms : l * sz ≤ n * sz := Nat.mul_le_mul_right _ (by omega)
 have hms2 : (m - l) * sz + l * sz ≤ n * sz := by rw [← Nat.add_mul]; exact Nat.mul_le_mul_right _ (by omega)
 refine ⟨by rw [List.length_take, List.length_drop, h.1]; omega, fun h0 => ?_⟩
 obtain ⟨b, o, rfl, hb, hc⟩ := h.2 (by omega)
 refine ⟨b, o + l * sz, ?_, hb, fun j u hu => ?_⟩
 ·unfold cutA
  rw [if_neg (by omega)]
  simp only [Option.map_some, Option.some.injEq]
  unfold Addr.add
  split
  ·next h2 => rw [h2]; rfl
  ·rfl
 ·have hj := (List.getElem?_eq_some_iff.1 hu).1
  rw [List.getElem?_take_of_lt (by rw [List.length_take] at hj; omega), List.getElem?_drop] at hu
  have := hc _ _ hu
  rw [← Nat.add_assoc] at this
  exact this
theorem slice_from (ht : P.underlying t = some (.slice (P.elem t))) (hs : ∀ w', (sizeOf (P.elem t)).run P w' = .ok sz w') (h : Rd w B sz A n xs) (hn : n ≤ c) {k : Nat} (hk : k ≤ n) :
  ∃ A2, (∀ w', (Instr.sliceAt t (.slice A n c) (some (.int .i64 k)) none none).run P w' = .ok (.slice A2 (n - k) (c - k)) w') ∧ Rd w B sz A2 (n - k) (xs.drop (k * sz)) := by
 refine ⟨cutA A c k sz, fun w' => ?_, ?_⟩
 ·rw [run_sliceAt_slice _ _ _ _ _ _ ht, run_slice_l w' t A n c ht .i64 (k : Int) (by omega) (by omega), hs]
  simp [Result.andThen, sliced, cutA]
 ·have := rd_cut h hn (l := k) (m := n) hk (Nat.le_refl _)
  rwa [List.take_of_length_le] at this
  rw [List.length_drop, h.1, Nat.sub_mul]; omega
theorem slice_range (ht : P.underlying t = some (.slice (P.elem t))) (hs : ∀ w', (sizeOf (P.elem t)).run P w' = .ok sz w') (h : Rd w B sz A n xs) (hn : n ≤ c) {k m : Nat} (hk : k ≤ m) (hm : m ≤ n) :
  ∃ A2, (∀ w', (Instr.sliceAt t (.slice A n c) (some (.int .i64 k)) (some (.int .i64 m)) none).run P w' = .ok (.slice A2 (m - k) (c - k)) w') ∧ Rd w B sz A2 (m - k) ((xs.drop (k * sz)).take ((m - k) * sz)) := by
 refine ⟨cutA A c k sz, fun w' => ?_, rd_cut h hn hk hm⟩
 rw [run_sliceAt_slice _ _ _ _ _ _ ht, run_slice_lh w' t A n c ht .i64 .i64 (k : Int) (m : Int) (by omega) (by omega) (by omega), hs]
 simp [Result.andThen, sliced, cutA]
theorem slice_to (ht : P.underlying t = some (.slice (P.elem t))) (hs : ∀ w', (sizeOf (P.elem t)).run P w' = .ok sz w') (h : Rd w B sz A n xs) (hn : n ≤ c) {m : Nat} (hm : m ≤ n) :
  ∃ A2, (∀ w', (Instr.sliceAt t (.slice A n c) none (some (.int .i64 m)) none).run P w' = .ok (.slice A2 m c) w') ∧ Rd w B sz A2 m (xs.take (m * sz)) := by
 refine ⟨cutA A c 0 sz, fun w' => ?_, by simpa using rd_cut h hn (l := 0) (m := m) (by omega) hm⟩
 rw [run_sliceAt_slice _ _ _ _ _ _ ht, run_slice_h w' t A n c ht .i64 (m : Int) (by omega) (by omega), hs]
 simp [Result.andThen, sliced, cutA]
end
theorem elem_u8 : Tryz.prog.underlying 46 = some (.slice (Tryz.prog.elem 46)) := by kernel_rfl
theorem sizeOf_u8 : ∀ w', (sizeOf (Tryz.prog.elem 46)).run Tryz.prog w' = .ok 1 w' := fun w' => by kernel_rfl
theorem own_cap {w : World} {base : Nat} {e : TypeId} {sz n c : Nat} {A : Option Addr} {xs : List Value} (h : w.ownsRow base e sz (.slice A n c) n xs) : n ≤ c := by
 rcases h.2 with ⟨_, h2⟩ | ⟨g, cap, cur, hv, _, _, hle, _⟩
 ·omega
 ·injection hv with _ _ h3
  omega
end Go.Proofs.YthhiookcknnmdaaGreat
