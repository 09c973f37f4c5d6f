/- The walk of slices.Delete at a held one: one element is taken out of a row of the call's own. Conditions: bounds. -/
import Derived.Test.YthhiookcknnmdaaGreatPuC
import Derived.Test.YthhiookcknnmdaaGreatPuE
import Derived.Test.YthhiookcknnmdaaGreatPuH0
import Derived.Test.YthhiookcknnmdaaGreatPuK
namespace Go.Proofs.YthhiookcknnmdaaGreat
open Go.RowKit Go.Lib

theorem zero_Held : ∀ w, (zeroValue 120).run Tryz.prog w = .ok (.agg #[.int .u8 0, .int .u8 0, .int .u8 0, .int .u8 0, .int .u8 0, .int .u8 0, .int .u8 0, .int .u8 0, .int .i64 0, .int .i64 0, .int .i64 0]) w := fun w => by kernel_rfl
def zHd : List Value := [.int .u8 0, .int .u8 0, .int .u8 0, .int .u8 0, .int .u8 0, .int .u8 0, .int .u8 0, .int .u8 0, .int .i64 0, .int .i64 0, .int .i64 0]
theorem zHd_cells : (Builtin.zeroCells (.agg #[.int .u8 0, .int .u8 0, .int .u8 0, .int .u8 0, .int .u8 0, .int .u8 0, .int .u8 0, .int .u8 0, .int .i64 0, .int .i64 0, .int .i64 0] : Value).cells 1).toList = zHd := by kernel_rfl
theorem zHd_one : ∀ u ∈ zHd, u.oneCell' = true := by
 intro u hu
 simp [zHd] at hu
 rcases hu with rfl | rfl <;> rfl
set_option maxRecDepth 100000 in
set_option maxHeartbeats 1000000 in
theorem sdel_row (g cap k m : Nat) (cur : Array Value) (l : List Hd) (base : Nat) (w : World) (hg : w.heap[g]? = some (.cells cur 120 (0, 0))) (hb : base ≤ g) (hn : k + 1 + m ≤ cap) (hm : cap ≤ maxLen) (hcs : cur.size = cap * 11)
  (hx : cur.toList.take ((k + 1 + m) * 11) = flatH l) :
  Calls Tryz.prog 168 #[.slice (some ⟨g, 0, none⟩) (k + 1 + m) cap, .int .i64 k, .int .i64 ((k : Int) + 1)] w fun e w' => e = .returned (.slice (some ⟨g, 0, none⟩) (k + m) cap) ∧ w'.ownsRow base 120 11 (.slice (some ⟨g, 0, none⟩) (k + m) cap) (k + m) (flatH (outL l k)) ∧ w.grownBy w' (some g) := by
 obtain ⟨i0, hi, hz0, hz1, hz2⟩ := info_parts info_Held
 have HI := Lib.hid (And.intro hi (And.intro hz0 (And.intro hz1 hz2))); clear hi hz0 hz1 hz2
 have hfl : (flatH l).length = (k + 1 + m) * 11 := by rw [← hx, List.length_take, Array.length_toList, hcs]; omega
 have hmm := hm
 unfold maxLen at hmm
 have hdr := del_row (w := w.drew) (e := 120) (base := base) (zs := zHd) hg hb hn hm hcs hx (show k < k + 1 + m by omega) (by rfl)
 rw [show k + 1 + m - 1 = k + m by omega, ← flatH_take, ← flatH_drop, ← flatH_append, Nat.zero_add] at hdr
 have Hdr := Lib.hid hdr
 have HB1 := Lib.hid (block_setCells (flatH (l.drop (k + 1))) (k * 11) w.drew cur hg)
 -- the four cuts
 have hr0 : ∀ w', (Instr.sliceAt 83 (.slice (some ⟨g, 0, none⟩) (k + 1 + m) cap) (some (.int .i64 k)) (some (.int .i64 ((k : Int) + 1))) (some (.int .i64 ((k : Int) + 1 + (m : Int))))).run Tryz.prog w' = .ok (sliced (some ⟨g, 0, none⟩) k (k + 1) (k + 1 + m) 11) w' := fun w' => by
  rw [run_sliceAt_slice _ _ _ _ _ _ elem_held, run_slice_lhm w' _ _ _ _ elem_held .i64 .i64 .i64 (k : Int) ((k : Int) + 1) ((k : Int) + 1 + (m : Int)) (by omega) (by omega) (by omega) (by omega), sizeOf_held]
  simp [Result.andThen, show ((k : Int) + 1).toNat = k + 1 by omega, show ((k : Int) + 1 + (m : Int)).toNat = k + 1 + m by omega]
 have hr1 : ∀ w', (Instr.sliceAt 83 (.slice (some ⟨g, 0, none⟩) (k + 1 + m) cap) none (some (.int .i64 k)) none).run Tryz.prog w' = .ok (.slice (some ⟨g, 0, none⟩) k cap) w' := fun w' => by
  rw [run_sliceAt_slice _ _ _ _ _ _ elem_held, run_slice_h w' _ _ _ _ elem_held .i64 (k : Int) (by omega) (by omega), sizeOf_held]
  simp [Result.andThen, sliced, Addr.add]
 have hr2 : ∃ A2, (∀ w', (Instr.sliceAt 83 (.slice (some ⟨g, 0, none⟩) (k + 1 + m) cap) (some (.int .i64 ((k : Int) + 1))) none none).run Tryz.prog w' = .ok (.slice (some A2) m (cap - (k + 1))) w') ∧ (∀ j u, (flatH (l.drop (k + 1)))[j]? = some u → w.drew.cell? (A2.add j) = some u) := by
  by_cases hck : cap = k + 1
  ·refine ⟨⟨g, 0, none⟩, fun w' => ?_, fun j u hu => ?_⟩
   ·rw [run_sliceAt_slice _ _ _ _ _ _ elem_held, run_slice_l w' _ _ _ _ elem_held .i64 ((k : Int) + 1) (by omega) (by omega), sizeOf_held]
    simp [Result.andThen, sliced, show ((k : Int) + 1).toNat = k + 1 by omega, hck]
   ·rw [flatH_drop, List.getElem?_drop, List.getElem?_eq_none (by omega)] at hu
    simp at hu
  ·refine ⟨⟨g, (k + 1) * 11, none⟩, fun w' => ?_, fun j u hu => ?_⟩
   ·rw [run_sliceAt_slice _ _ _ _ _ _ elem_held, run_slice_l w' _ _ _ _ elem_held .i64 ((k : Int) + 1) (by omega) (by omega), sizeOf_held]
    simp [Result.andThen, sliced, show ((k : Int) + 1).toNat = k + 1 by omega, hck, Addr.add]
   ·rw [flatH_drop, List.getElem?_drop, ← hx] at hu
    have hlt := (List.getElem?_eq_some_iff.1 hu).1
    rw [List.length_take] at hlt
    rw [List.getElem?_take_of_lt (by omega), Array.getElem?_toList] at hu
    have e : (⟨g, (k + 1) * 11, none⟩ : Addr).add j = ⟨g, (k + 1) * 11 + j, none⟩ := by unfold Addr.add; split <;> simp_all
    rw [e]
    exact (block_cell (w := w.drew) hg _).trans hu
 obtain ⟨A2, hr2, hsrc⟩ := hr2
 have hr3 : ∀ w', (Instr.sliceAt 83 (.slice (some ⟨g, 0, none⟩) (k + m) cap) (some (.int .i64 ((k : Int) + (m : Int)))) (some (.int .i64 ((k : Int) + 1 + (m : Int)))) none).run Tryz.prog w' = .ok (.slice (some ⟨g, (k + m) * 11, none⟩) 1 (cap - (k + m))) w' := fun w' => by
  rw [run_sliceAt_slice _ _ _ _ _ _ elem_held, run_slice_lh w' _ _ _ _ elem_held .i64 .i64 ((k : Int) + (m : Int)) ((k : Int) + 1 + (m : Int)) (by omega) (by omega) (by omega), sizeOf_held]
  simp [Result.andThen, sliced, show ((k : Int) + (m : Int)).toNat = k + m by omega, show ((k : Int) + 1 + (m : Int)).toNat = k + 1 + m by omega, show ¬ cap = k + m by omega, Addr.add, show k + 1 + m - (k + m) = 1 by omega]
  intro h; omega
 have hcl : ∀ ty, (Builtin.clear_ #[83] ty #[.slice (some ⟨g, (k + m) * 11, none⟩) 1 (cap - (k + m))]).run Tryz.prog (w.drew.setCells g (k * 11) (flatH (l.drop (k + 1)))) = .ok (.tuple #[]) ((w.drew.setCells g (k * 11) (flatH (l.drop (k + 1)))).setCells g ((k + m) * 11) zHd) :=
  fun ty => run_clear_one _ _ _ _ _ _ Tryz.underlying83 zero_Held zHd_cells zHd_one g _ _ _ _ HB1.out (by rw [layA_size, hcs]; show (k + m) * 11 + 11 ≤ _; omega)
 have s1 : Hid ((flatH (l.drop (k + 1))).length = m * 11) := by show _ = _; rw [flatH_drop, List.length_drop, hfl]; omega
 have s2 : Hid (∀ u ∈ flatH (l.drop (k + 1)), u.oneCell' = true) := flatH_one _
 have s3 : Hid (∀ t, t < (flatH (l.drop (k + 1))).length → (w.drew.cell? ⟨g, 0 + k * 11 + t, none⟩).isSome = true ∧ w.drew.frozen? ⟨g, 0 + k * 11 + t, none⟩ = false) := by
  intro t ht
  have ht' : t < m * 11 := by rw [← s1.out]; exact ht
  exact ⟨by rw [block_cell (w := w.drew) hg, Array.getElem?_eq_getElem (by omega)]; rfl, block_free (w := w.drew) hg _⟩
 have Hsrc := Lib.hid hsrc
 have HG : Hid (w.grownBy ((w.drew.setCells g (k * 11) (flatH (l.drop (k + 1)))).setCells g ((k + m) * 11) zHd) (some g)) := by
  have h1 := grown_setCells (g := g) (flatH (l.drop (k + 1))) (k * 11) w.drew
  have h2 := grown_setCells (g := g) zHd ((k + m) * 11) (w.drew.setCells g (k * 11) (flatH (l.drop (k + 1))))
  exact ⟨h2.os.trans h1.os, h2.tape.trans h1.tape, h2.output.trans h1.output, Nat.le_trans h1.size h2.size, fun j hj hne => (h2.block j (Nat.lt_of_lt_of_le hj h1.size) hne).trans (h1.block j hj hne)⟩
 have hroom : k + m ≤ cap := by omega
 have hne : ((k : Int) == (k : Int) + 1) = false := by simp; omega
 clear hx hg hcs hsrc hdr hfl
 go_enter Tryz.func168, Tryz.ntmps168
 go_wp2_with fail
 go_region_law (refine step_append_room rfl (.tmp 22) (.tmp 25) 83 rfl 120 i0 11 Tryz.underlying83 HI.out.1 HI.out.2.2.1 g 0 k cap (by simp [Act.eval, Act.put]) A2 m (cap - (k + 1)) _ (by simp [Act.eval, Act.put]) s1.out Hsrc.out s2.out hroom s3.out ?_)
 go_wp2
 go_ret
 exact ⟨rfl, Hdr.out, HG.out⟩
end Go.Proofs.YthhiookcknnmdaaGreat
