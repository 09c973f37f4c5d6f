/- A tree cloned: the walk of its Clone, as far as a ring's needs it (what is made is not told). Condition: none. A ring cloned: the walks of maps.Clone and of Clone. Condition: none. The walk of KeysSame. Condition: none. -/
import Derived.Test.YtmpklplojfjfbaaKeN
import Derived.Test.YtmpklplojfjfbaaKeI
import Derived.Test.YtmpklplojfjfbaaKeX
import Derived.Test.YtmpklplojfjfbaaKeJ
import Derived.Test.YtmpklplojfjfbaaJoinA
import Derived.Shelf.SlMaps.Clone
import Derived.Test.YtmpklplojfjfbaaJoinP
import Derived.Test.YtmpklplojfjfbaaJoinK
namespace Go.Proofs.Ytmpklplojfjfbaa
open Go.RowKit Go.Lib



theorem nodes_cells {w : World} {bt h : Nat} {v : Value} {gs : Nat → Nat} (hb : w.heap[bt]? = some (.cells (treeC v h gs (h + 1)) 111 (0, 0))) (j : Nat) (hj : j < 13) : w.cell? ⟨bt, 1 + j, none⟩ = some (nodeV h gs (h + 1) j) := by
  rw [block_cell hb, treeC_node _ _ _ _ _ hj]
theorem idx_nodes (h : Nat) (gs : Nat → Nat) (k : Nat) (hk : k < 13) (w : World) : (Instr.index 109 (.agg #[nodeV h gs (h + 1) 0, nodeV h gs (h + 1) 1, nodeV h gs (h + 1) 2, nodeV h gs (h + 1) 3, nodeV h gs (h + 1) 4, nodeV h gs (h + 1) 5, nodeV h gs (h + 1) 6, nodeV h gs (h + 1) 7, nodeV h gs (h + 1) 8, nodeV h gs (h + 1) 9, nodeV h gs (h + 1) 10, nodeV h gs (h + 1) 11, nodeV h gs (h + 1) 12]) (.int .i64 (k : Int))).run Try.prog w = .ok (nodeV h gs (h + 1) k) w := by
  have i0 : ∀ w, (Instr.index 109 (.agg #[nodeV h gs (h + 1) 0, nodeV h gs (h + 1) 1, nodeV h gs (h + 1) 2, nodeV h gs (h + 1) 3, nodeV h gs (h + 1) 4, nodeV h gs (h + 1) 5, nodeV h gs (h + 1) 6, nodeV h gs (h + 1) 7, nodeV h gs (h + 1) 8, nodeV h gs (h + 1) 9, nodeV h gs (h + 1) 10, nodeV h gs (h + 1) 11, nodeV h gs (h + 1) 12]) (.int .i64 0)).run Try.prog w = .ok (nodeV h gs (h + 1) 0) w := fun _ => by kernel_rfl
  have i1 : ∀ w, (Instr.index 109 (.agg #[nodeV h gs (h + 1) 0, nodeV h gs (h + 1) 1, nodeV h gs (h + 1) 2, nodeV h gs (h + 1) 3, nodeV h gs (h + 1) 4, nodeV h gs (h + 1) 5, nodeV h gs (h + 1) 6, nodeV h gs (h + 1) 7, nodeV h gs (h + 1) 8, nodeV h gs (h + 1) 9, nodeV h gs (h + 1) 10, nodeV h gs (h + 1) 11, nodeV h gs (h + 1) 12]) (.int .i64 1)).run Try.prog w = .ok (nodeV h gs (h + 1) 1) w := fun _ => by kernel_rfl
  have i2 : ∀ w, (Instr.index 109 (.agg #[nodeV h gs (h + 1) 0, nodeV h gs (h + 1) 1, nodeV h gs (h + 1) 2, nodeV h gs (h + 1) 3, nodeV h gs (h + 1) 4, nodeV h gs (h + 1) 5, nodeV h gs (h + 1) 6, nodeV h gs (h + 1) 7, nodeV h gs (h + 1) 8, nodeV h gs (h + 1) 9, nodeV h gs (h + 1) 10, nodeV h gs (h + 1) 11, nodeV h gs (h + 1) 12]) (.int .i64 2)).run Try.prog w = .ok (nodeV h gs (h + 1) 2) w := fun _ => by kernel_rfl
  have i3 : ∀ w, (Instr.index 109 (.agg #[nodeV h gs (h + 1) 0, nodeV h gs (h + 1) 1, nodeV h gs (h + 1) 2, nodeV h gs (h + 1) 3, nodeV h gs (h + 1) 4, nodeV h gs (h + 1) 5, nodeV h gs (h + 1) 6, nodeV h gs (h + 1) 7, nodeV h gs (h + 1) 8, nodeV h gs (h + 1) 9, nodeV h gs (h + 1) 10, nodeV h gs (h + 1) 11, nodeV h gs (h + 1) 12]) (.int .i64 3)).run Try.prog w = .ok (nodeV h gs (h + 1) 3) w := fun _ => by kernel_rfl
  have i4 : ∀ w, (Instr.index 109 (.agg #[nodeV h gs (h + 1) 0, nodeV h gs (h + 1) 1, nodeV h gs (h + 1) 2, nodeV h gs (h + 1) 3, nodeV h gs (h + 1) 4, nodeV h gs (h + 1) 5, nodeV h gs (h + 1) 6, nodeV h gs (h + 1) 7, nodeV h gs (h + 1) 8, nodeV h gs (h + 1) 9, nodeV h gs (h + 1) 10, nodeV h gs (h + 1) 11, nodeV h gs (h + 1) 12]) (.int .i64 4)).run Try.prog w = .ok (nodeV h gs (h + 1) 4) w := fun _ => by kernel_rfl
  have i5 : ∀ w, (Instr.index 109 (.agg #[nodeV h gs (h + 1) 0, nodeV h gs (h + 1) 1, nodeV h gs (h + 1) 2, nodeV h gs (h + 1) 3, nodeV h gs (h + 1) 4, nodeV h gs (h + 1) 5, nodeV h gs (h + 1) 6, nodeV h gs (h + 1) 7, nodeV h gs (h + 1) 8, nodeV h gs (h + 1) 9, nodeV h gs (h + 1) 10, nodeV h gs (h + 1) 11, nodeV h gs (h + 1) 12]) (.int .i64 5)).run Try.prog w = .ok (nodeV h gs (h + 1) 5) w := fun _ => by kernel_rfl
  have i6 : ∀ w, (Instr.index 109 (.agg #[nodeV h gs (h + 1) 0, nodeV h gs (h + 1) 1, nodeV h gs (h + 1) 2, nodeV h gs (h + 1) 3, nodeV h gs (h + 1) 4, nodeV h gs (h + 1) 5, nodeV h gs (h + 1) 6, nodeV h gs (h + 1) 7, nodeV h gs (h + 1) 8, nodeV h gs (h + 1) 9, nodeV h gs (h + 1) 10, nodeV h gs (h + 1) 11, nodeV h gs (h + 1) 12]) (.int .i64 6)).run Try.prog w = .ok (nodeV h gs (h + 1) 6) w := fun _ => by kernel_rfl
  have i7 : ∀ w, (Instr.index 109 (.agg #[nodeV h gs (h + 1) 0, nodeV h gs (h + 1) 1, nodeV h gs (h + 1) 2, nodeV h gs (h + 1) 3, nodeV h gs (h + 1) 4, nodeV h gs (h + 1) 5, nodeV h gs (h + 1) 6, nodeV h gs (h + 1) 7, nodeV h gs (h + 1) 8, nodeV h gs (h + 1) 9, nodeV h gs (h + 1) 10, nodeV h gs (h + 1) 11, nodeV h gs (h + 1) 12]) (.int .i64 7)).run Try.prog w = .ok (nodeV h gs (h + 1) 7) w := fun _ => by kernel_rfl
  have i8 : ∀ w, (Instr.index 109 (.agg #[nodeV h gs (h + 1) 0, nodeV h gs (h + 1) 1, nodeV h gs (h + 1) 2, nodeV h gs (h + 1) 3, nodeV h gs (h + 1) 4, nodeV h gs (h + 1) 5, nodeV h gs (h + 1) 6, nodeV h gs (h + 1) 7, nodeV h gs (h + 1) 8, nodeV h gs (h + 1) 9, nodeV h gs (h + 1) 10, nodeV h gs (h + 1) 11, nodeV h gs (h + 1) 12]) (.int .i64 8)).run Try.prog w = .ok (nodeV h gs (h + 1) 8) w := fun _ => by kernel_rfl
  have i9 : ∀ w, (Instr.index 109 (.agg #[nodeV h gs (h + 1) 0, nodeV h gs (h + 1) 1, nodeV h gs (h + 1) 2, nodeV h gs (h + 1) 3, nodeV h gs (h + 1) 4, nodeV h gs (h + 1) 5, nodeV h gs (h + 1) 6, nodeV h gs (h + 1) 7, nodeV h gs (h + 1) 8, nodeV h gs (h + 1) 9, nodeV h gs (h + 1) 10, nodeV h gs (h + 1) 11, nodeV h gs (h + 1) 12]) (.int .i64 9)).run Try.prog w = .ok (nodeV h gs (h + 1) 9) w := fun _ => by kernel_rfl
  have i10 : ∀ w, (Instr.index 109 (.agg #[nodeV h gs (h + 1) 0, nodeV h gs (h + 1) 1, nodeV h gs (h + 1) 2, nodeV h gs (h + 1) 3, nodeV h gs (h + 1) 4, nodeV h gs (h + 1) 5, nodeV h gs (h + 1) 6, nodeV h gs (h + 1) 7, nodeV h gs (h + 1) 8, nodeV h gs (h + 1) 9, nodeV h gs (h + 1) 10, nodeV h gs (h + 1) 11, nodeV h gs (h + 1) 12]) (.int .i64 10)).run Try.prog w = .ok (nodeV h gs (h + 1) 10) w := fun _ => by kernel_rfl
  have i11 : ∀ w, (Instr.index 109 (.agg #[nodeV h gs (h + 1) 0, nodeV h gs (h + 1) 1, nodeV h gs (h + 1) 2, nodeV h gs (h + 1) 3, nodeV h gs (h + 1) 4, nodeV h gs (h + 1) 5, nodeV h gs (h + 1) 6, nodeV h gs (h + 1) 7, nodeV h gs (h + 1) 8, nodeV h gs (h + 1) 9, nodeV h gs (h + 1) 10, nodeV h gs (h + 1) 11, nodeV h gs (h + 1) 12]) (.int .i64 11)).run Try.prog w = .ok (nodeV h gs (h + 1) 11) w := fun _ => by kernel_rfl
  have i12 : ∀ w, (Instr.index 109 (.agg #[nodeV h gs (h + 1) 0, nodeV h gs (h + 1) 1, nodeV h gs (h + 1) 2, nodeV h gs (h + 1) 3, nodeV h gs (h + 1) 4, nodeV h gs (h + 1) 5, nodeV h gs (h + 1) 6, nodeV h gs (h + 1) 7, nodeV h gs (h + 1) 8, nodeV h gs (h + 1) 9, nodeV h gs (h + 1) 10, nodeV h gs (h + 1) 11, nodeV h gs (h + 1) 12]) (.int .i64 12)).run Try.prog w = .ok (nodeV h gs (h + 1) 12) w := fun _ => by kernel_rfl
  have : k = 0 ∨ k = 1 ∨ k = 2 ∨ k = 3 ∨ k = 4 ∨ k = 5 ∨ k = 6 ∨ k = 7 ∨ k = 8 ∨ k = 9 ∨ k = 10 ∨ k = 11 ∨ k = 12 := by omega
  rcases this with rfl | rfl | rfl | rfl | rfl | rfl | rfl | rfl | rfl | rfl | rfl | rfl | rfl
  · exact i0 w
  · exact i1 w
  · exact i2 w
  · exact i3 w
  · exact i4 w
  · exact i5 w
  · exact i6 w
  · exact i7 w
  · exact i8 w
  · exact i9 w
  · exact i10 w
  · exact i11 w
  · exact i12 w
theorem clone_keep {w w' : World} {b : Nat} {cs : Array Value} {t : TypeId} (h : w.heap[b]? = some (.cells cs t (0, 0))) (hb : Below w.heap.size w w') : w'.heap[b]? = some (.cells cs t (0, 0)) := block_below h hb (block_lt h)
set_option maxRecDepth 100000 in
set_option maxHeartbeats 4000000 in
theorem tclone_any (T0 T1 bt h : Nat) (l : List D8) (w : World) (t : TreeAt w T0 T1 bt h l) :
    Calls Try.prog 50 #[.pointer (some ⟨bt, 0, none⟩)] w fun e w' => ∃ bo, e = .returned (.pointer (some ⟨bo, 0, none⟩)) ∧ Below w.heap.size w w' := by
  have Ht := Lib.hid t
  obtain ⟨A, c, gs, hb, ho, _, hL⟩ := t.blk
  have hh := t.hh
  have hp := pow_le8 hh
  have c0 : w.cell? ⟨bt, 0, none⟩ = some (.slice A (2 ^ h) c) := (block_cell hb 0).trans rfl
  have hbl := block_lt hb
  have Hb := Lib.hid hb; have Ho := Lib.hid (Rd.of_own ho); have HL := Lib.hid hL
  have hlb : 2 ^ h ≤ 1000000 := by omega
  clear t hb ho hL
  go_enter Try.func50, Try.ntmps50
  go_wp2_with fail
  refine (sdclone_any l A (2 ^ h) c w Ho.out hlb).mono ?_
  rintro e w1 ⟨A1, c1, rfl, _, hb1⟩
  have HB1 := Lib.hid (block_below Hb.out hb1 hbl); have Hw1 := Lib.hid hb1
  have hT1 := Ht.out.hT
  clear hb1 c0
  have HB2 : Hid ((w1.alloc (.cells #[.slice A1 (2 ^ h) c1, .slice none 0 0, .slice none 0 0, .slice none 0 0, .slice none 0 0, .slice none 0 0, .slice none 0 0, .slice none 0 0, .slice none 0 0, .slice none 0 0, .slice none 0 0, .slice none 0 0, .slice none 0 0, .slice none 0 0] 111)).heap[w1.heap.size]? = some (.cells #[.slice A1 (2 ^ h) c1, .slice none 0 0, .slice none 0 0, .slice none 0 0, .slice none 0 0, .slice none 0 0, .slice none 0 0, .slice none 0 0, .slice none 0 0, .slice none 0 0, .slice none 0 0, .slice none 0 0, .slice none 0 0, .slice none 0 0] 111 (0, 0))) := heap_alloc_new w1 _
  have Hw2 := Lib.hid (Hw1.out.alloc Hw1.out.size (.cells #[.slice A1 (2 ^ h) c1, .slice none 0 0, .slice none 0 0, .slice none 0 0, .slice none 0 0, .slice none 0 0, .slice none 0 0, .slice none 0 0, .slice none 0 0, .slice none 0 0, .slice none 0 0, .slice none 0 0, .slice none 0 0, .slice none 0 0] 111))
  have HS2 := Lib.hid (block_alloc HB1.out (.cells #[.slice A1 (2 ^ h) c1, .slice none 0 0, .slice none 0 0, .slice none 0 0, .slice none 0 0, .slice none 0 0, .slice none 0 0, .slice none 0 0, .slice none 0 0, .slice none 0 0, .slice none 0 0, .slice none 0 0, .slice none 0 0, .slice none 0 0] 111))
  have hw1s := Hw1.out.size
  go_upto_region 4 with fail
  generalize w1.alloc (.cells #[.slice A1 (2 ^ h) c1, .slice none 0 0, .slice none 0 0, .slice none 0 0, .slice none 0 0, .slice none 0 0, .slice none 0 0, .slice none 0 0, .slice none 0 0, .slice none 0 0, .slice none 0 0, .slice none 0 0, .slice none 0 0, .slice none 0 0] 111) = w2 at *
  have m0 : w2.cell? ⟨bt, 1, none⟩ = some (nodeV h gs (h + 1) 0) := nodes_cells HS2.out 0 (by decide)
  have m1 : w2.cell? ⟨bt, 2, none⟩ = some (nodeV h gs (h + 1) 1) := nodes_cells HS2.out 1 (by decide)
  have m2 : w2.cell? ⟨bt, 3, none⟩ = some (nodeV h gs (h + 1) 2) := nodes_cells HS2.out 2 (by decide)
  have m3 : w2.cell? ⟨bt, 4, none⟩ = some (nodeV h gs (h + 1) 3) := nodes_cells HS2.out 3 (by decide)
  have m4 : w2.cell? ⟨bt, 5, none⟩ = some (nodeV h gs (h + 1) 4) := nodes_cells HS2.out 4 (by decide)
  have m5 : w2.cell? ⟨bt, 6, none⟩ = some (nodeV h gs (h + 1) 5) := nodes_cells HS2.out 5 (by decide)
  have m6 : w2.cell? ⟨bt, 7, none⟩ = some (nodeV h gs (h + 1) 6) := nodes_cells HS2.out 6 (by decide)
  have m7 : w2.cell? ⟨bt, 8, none⟩ = some (nodeV h gs (h + 1) 7) := nodes_cells HS2.out 7 (by decide)
  have m8 : w2.cell? ⟨bt, 9, none⟩ = some (nodeV h gs (h + 1) 8) := nodes_cells HS2.out 8 (by decide)
  have m9 : w2.cell? ⟨bt, 10, none⟩ = some (nodeV h gs (h + 1) 9) := nodes_cells HS2.out 9 (by decide)
  have m10 : w2.cell? ⟨bt, 11, none⟩ = some (nodeV h gs (h + 1) 10) := nodes_cells HS2.out 10 (by decide)
  have m11 : w2.cell? ⟨bt, 12, none⟩ = some (nodeV h gs (h + 1) 11) := nodes_cells HS2.out 11 (by decide)
  have m12 : w2.cell? ⟨bt, 13, none⟩ = some (nodeV h gs (h + 1) 12) := nodes_cells HS2.out 12 (by decide)
  have hbl2 := block_lt HS2.out
  have hidx := Lib.hid (idx_nodes h gs)
  clear HB1 Hw1
  generalize w1.heap.size = bo at *
  go_upto_block 0 with fail
  clear m0 m1 m2 m3 m4 m5 m6 m7 m8 m9 m10 m11 m12
  go_wp2
  go_loopw [19] (fun i wr => ∃ (k : Nat) (cs : Array Value), k ≤ 13 ∧ i = .int .i64 (k : Int) ∧ wr.heap[bo]? = some (.cells cs 111 (0, 0)) ∧ cs.size = 14 ∧ Below w.heap.size w wr) (fun i _ => 13 - (RowKit.intOf i).toNat)
  case atStart => exact ⟨0, _, by omega, rfl, HB2.out, rfl, Hw2.out⟩
  case round =>
    obtain ⟨k, cs, hk, rfl, hB, hcs, hw⟩ := hrel
    have HB := Lib.hid hB; have Hw := Lib.hid hw; have Hcs := Lib.hid hcs
    clear hB hw hcs HB2 Hw2
    by_cases hlt : k < 13
    · have hd1 : decide ((k : Int) < 13) = true := decide_eq_true (by omega)
      have hki : (k : Int) < 13 := by omega
      have Hk := Lib.hid hlt
      have hix := hidx.out k hlt
      obtain ⟨A3, n3, hnv, hrd3, hn3⟩ : ∃ A3 n3, nodeV h gs (h + 1) k = .slice A3 n3 n3 ∧ (∃ L3, Rd wr wr.heap.size 8 A3 n3 (flatD L3)) ∧ n3 ≤ 1000000 := by
        unfold nodeV
        by_cases hkh : k < h + 1
        · rw [if_pos hkh]
          obtain ⟨_, h2, h3⟩ := HL.out k (by omega)
          refine ⟨_, _, rfl, ⟨_, ((h3.rd).below Hw.out (Nat.le_refl _)).more Hw.out.size⟩, ?_⟩
          have := pow_le8 (show h - k ≤ 8 by omega)
          omega
        · rw [if_neg hkh]
          exact ⟨none, 0, rfl, ⟨[], Rd.empty⟩, by decide⟩
      rw [hnv] at hix
      obtain ⟨L3, hrd3⟩ := hrd3
      have Hrd3 := Lib.hid hrd3
      clear hnv hrd3
      go_upto_region 7 with fail
      refine wp_region_held_drew (S := fun _ => True) (by kernel_rfl) trivial (fun hHeld => ?_)
      rw [show Array.replicate _ false = (#[false, false, false, false, false, false, false, false] : Array Bool) from rfl]
      refine takeH 0 (some 23) (v := ?_) rfl (by kernel_rfl) (by kernel_rfl) (by kernel_rfl) (by kernel_rfl) (fun _ _ _ h => h) (Or.inl ⟨by kernel_rfl, ?hy⟩) (by assumption) ?_
      case hy =>
        intro w' hSw
        clear hSw
        first
          | (go_simp; done)
          | (go_simp; with_reducible rfl)
      simp only [Act.put, List.setIfInBounds_toArray, List.set_cons_zero, List.set_cons_succ]
      refine takeH 1 (some 24) (v := ?_) rfl (by kernel_rfl) (by kernel_rfl) (by kernel_rfl) (by kernel_rfl) (fun _ _ _ h => h) (Or.inl ⟨by kernel_rfl, ?hy⟩) (by assumption) ?_
      case hy =>
        intro w' hSw
        clear hSw
        first
          | (go_simp; done)
          | (go_simp; with_reducible rfl)
      simp only [Act.put, List.setIfInBounds_toArray, List.set_cons_zero, List.set_cons_succ]
      refine takeH 2 (some 25) (v := ?_) rfl (by kernel_rfl) (by kernel_rfl) (by kernel_rfl) (by kernel_rfl) (fun _ _ _ h => h) (Or.inl ⟨by kernel_rfl, ?hy⟩) (by assumption) ?_
      case hy =>
        intro w' hSw
        clear hSw
        first
          | (go_simp; done)
          | (go_simp; with_reducible rfl)
      simp only [Act.put, List.setIfInBounds_toArray, List.set_cons_zero, List.set_cons_succ]
      refine takeH 4 (some 27) (v := ?_) rfl (by kernel_rfl) (by kernel_rfl) (by kernel_rfl) (by kernel_rfl) (fun _ _ _ h => h) (Or.inl ⟨by kernel_rfl, ?hy⟩) (by assumption) ?_
      case hy =>
        intro w' hSw
        clear hSw
        first
          | (go_simp; done)
          | (go_simp; with_reducible rfl)
      simp only [Act.put, List.setIfInBounds_toArray, List.set_cons_zero, List.set_cons_succ]
      refine takeH 5 (some 28) (v := ?_) rfl (by kernel_rfl) (by kernel_rfl) (by kernel_rfl) (by kernel_rfl) (fun _ _ _ h => h) (Or.inl ⟨by kernel_rfl, ?hy⟩) (by assumption) ?_
      case hy =>
        intro w' hSw
        clear hSw
        first
          | (go_simp; done)
          | (go_simp; with_reducible rfl)
      simp only [Act.put, List.setIfInBounds_toArray, List.set_cons_zero, List.set_cons_succ]
      refine wpAnyH_ready (rs := [3]) (by kernel_rfl) (by simp) ?_
      refine AllReadyH.cons rfl (fun K hK => ?_) AllReadyH.nil
      rw [if_pos (by kernel_rfl)]
      go_simp
      refine (sdclone_any L3 A3 n3 n3 wr.drew (Hrd3.out.drew) hn3).mono ?_
      rintro e w5 ⟨A5, c5, rfl, _, hb5⟩
      have hq5 := (Below.refl wr.heap.size wr).drew.trans hb5
      have HB5 := Lib.hid (block_below HB.out hq5 (block_lt HB.out)); have Hw5 := Lib.hid (Hw.out.trans (hq5.mono Hw.out.size))
      clear hb5 hq5
      refine hK.out _ _ trivial (fun _ => ?_)
      clear hK K
      simp only [List.setIfInBounds_toArray, List.set_cons_zero, List.set_cons_succ]
      refine takeH 6 (some 29) (v := ?_) rfl (by kernel_rfl) (by kernel_rfl) (by kernel_rfl) (by kernel_rfl) (fun _ _ _ h => h) (Or.inl ⟨by kernel_rfl, ?hy⟩) (by assumption) ?_
      case hy =>
        intro w' hSw
        clear hSw
        first
          | (go_simp; done)
          | (go_simp; with_reducible rfl)
      simp only [Act.put, List.setIfInBounds_toArray, List.set_cons_zero, List.set_cons_succ]
      obtain ⟨x, hx⟩ : ∃ x, cs[1 + k]? = some x := ⟨_, Array.getElem?_eq_getElem (by have := Hcs.out; omega)⟩
      have cx5 : w5.cell? ⟨bo, 1 + k, none⟩ = some x := (block_cell HB5.out (1 + k)).trans hx
      have f5 := block_free HB5.out
      have h6 := Joins.block_setCell (i := 1 + k) HB5.out (.slice A5 n3 c5)
      have g6 := grown_set1 w5 bo (1 + k) (.slice A5 n3 c5)
      have hbo5 := block_lt HB5.out
      have Hz6 := Lib.hid (show (cs.setIfInBounds (1 + k) (.slice A5 n3 c5)).size = 14 by rw [Array.size_setIfInBounds]; exact Hcs.out)
      have HB6 := Lib.hid h6
      have Hw6 := Lib.hid (Hw5.out.grown g6 Hw5.out.size (fun q hq => by injection hq with hq; omega))
      clear h6 g6
      refine wpAnyH_ready (rs := [7]) (by kernel_rfl) (by simp) ?_
      refine AllReadyH.cons rfl (fun K hK => ?_) AllReadyH.nil
      rw [if_pos (by kernel_rfl)]
      go_simp
      generalize w5.setCell ⟨bo, 1 + k, none⟩ (.slice A5 n3 c5) = w6 at *
      refine hK.out _ _ trivial (fun _ => ?_)
      clear hK K
      simp only [List.setIfInBounds_toArray, List.set_cons_zero, List.set_cons_succ]
      refine wpAnyH_done (by kernel_rfl) ?_ _
      go_wp2
      go_roundw
      case rel => exact ⟨k + 1, _, Hk.out, by go_num, HB6.out, Hz6.out, Hw6.out⟩
      case measure => have := Hk.out; simp [RowKit.intOf]; omega
    · obtain rfl : k = 13 := by omega
      have hd1 : decide (((13 : Nat) : Int) < 13) = false := by decide
      clear hlt hk
      go_wp2
      go_ret
      exact ⟨bo, rfl, Hw.out⟩
end Go.Proofs.Ytmpklplojfjfbaa
namespace Go.Proofs.Ytmpklplojfjfbaa
open Go.RowKit Go.Lib



set_option maxRecDepth 100000 in
set_option maxHeartbeats 2000000 in
theorem mcloneD_any (L : List D8) (b : Nat) (w : World) (h : PlacesD w b L) :
    Calls Try.prog 52 #[.map (some b)] w fun r w' => r = .returned (.map (some w.heap.size)) ∧ PlacesD w' w.heap.size L ∧ Below w.heap.size w w' := by
  obtain ⟨es, clock, hb, hes⟩ := h
  have hq := fun w => run_eql_map_nil_sl (P := Try.prog) w 58 _ _ (some b) Try.underlying58
  have Hes := Lib.hid hes
  clear hes
  go_enter Try.func52, Try.ntmps52
  go_wp2
  rw [run_callFunc_extern Try.func77 (by kernel_rfl) (by kernel_rfl) (by kernel_rfl) (e := Extern.MapsClone.clone) (by kernel_rfl), run_maps_clone_sl w 58 hb]
  simp only [Result.andThen]
  rw [Oper.upon_value]
  go_wp2
  rw [run_typeAssert_map_sl _ 58 20 _ _ _ Try.underlying58]
  simp only [Result.andThen]
  rw [Oper.upon_value]
  go_wp2
  go_ret
  exact ⟨rfl, ⟨es, clock, heap_alloc_new w _, Hes.out⟩, h_one w _⟩
set_option maxRecDepth 100000 in
set_option maxHeartbeats 4000000 in
theorem rclone_any {w : World} {B : Nat} {F : Nat → Prop} {T0 T1 br : Nat} {r : RingM} (a : RingAt w B F T0 T1 br r) :
    Calls Try.prog 19 #[.pointer (some ⟨br, 0, none⟩)] w fun e w' => ∃ F' br' mb' pt, e = .returned (.pointer (some ⟨br', 0, none⟩)) ∧ LedAt w' w.heap.size F' br' mb' r.secret r.h pt r.led ∧ Below w.heap.size w w' := by
  obtain ⟨mb, bt, l, ht⟩ := a.led
  obtain ⟨A, c, hb, ho, _⟩ := l.cells
  have hpw := pow_le8 a.ok.2.1
  have hn : r.led.length ≤ 1000000 := by have := a.ok.2.2.2.2; omega
  have HT := Lib.hid ht; have HP := Lib.hid l.map; have HN := Lib.hid l.nodup; have HOk := Lib.hid l.ok; have HO := Lib.hid (Rd.of_own ho)
  have hS : w.drew.heap[br]? = some (.cells (ringC r.secret r.h (.pointer (some ⟨bt, 0, none⟩)) (.slice A r.led.length c) mb) 62 (0, 0)) := hb
  have hbl := block_lt hb
  clear a l ht ho hpw hb
  generalize r.secret = s at *
  generalize r.h = h at *
  generalize r.led = L at *
  go_enter Try.func19, Try.ntmps19
  go_upto_region 3 with fail
  refine wp_region_held_drew (S := fun w' => w'.heap[br]? = some (.cells (ringC s h (.pointer (some ⟨bt, 0, none⟩)) (.slice A L.length c) mb) 62 (0, 0))) (by kernel_rfl) hS (fun hHeld => ?_)
  rw [show Array.replicate _ false = (#[false, false, false, false, false, false, false, false, false, false, false, false, false, false, false, false, false, false, false, false, false, false, false, false, false, false] : Array Bool) from rfl]
  refine takeH 0 (some 5) (v := ?_) rfl (by kernel_rfl) (by kernel_rfl) (by kernel_rfl) (by kernel_rfl) (fun _ _ _ h => h) (Or.inl ⟨by kernel_rfl, ?hy⟩) (by assumption) ?_
  case hy =>
    intro w' hSw
    clear hSw
    first
      | (go_simp; done)
      | (go_simp; with_reducible rfl)
  simp only [Act.put, List.setIfInBounds_toArray, List.set_cons_zero, List.set_cons_succ]
  refine takeH 1 (some 6) (v := ?_) rfl (by kernel_rfl) (by kernel_rfl) (by kernel_rfl) (by kernel_rfl) (fun _ _ _ h => h) (Or.inl ⟨by kernel_rfl, ?hy⟩) (by assumption) ?_
  case hy =>
    intro w' hSw
    clear hSw
    first
      | (go_simp; done)
      | (go_simp; with_reducible rfl)
  simp only [Act.put, List.setIfInBounds_toArray, List.set_cons_zero, List.set_cons_succ]
  refine takeH 2 (some 7) (v := ?_) rfl (by kernel_rfl) (by kernel_rfl) (by kernel_rfl) (by kernel_rfl) (fun _ _ _ h => h) (Or.inl ⟨by kernel_rfl, ?hy⟩) (by assumption) ?_
  case hy =>
    intro w' hSw
    clear hSw
    first
      | (go_simp; done)
      | (go_simp; with_reducible rfl)
  simp only [Act.put, List.setIfInBounds_toArray, List.set_cons_zero, List.set_cons_succ]
  refine takeH 3 (some 8) (v := .agg #[.int .u8 (s.x0 : Int), .int .u8 (s.x1 : Int), .int .u8 (s.x2 : Int), .int .u8 (s.x3 : Int), .int .u8 (s.x4 : Int), .int .u8 (s.x5 : Int), .int .u8 (s.x6 : Int), .int .u8 (s.x7 : Int)]) rfl (by kernel_rfl) (by kernel_rfl) (by kernel_rfl) (by kernel_rfl) (fun _ _ _ h => h) (Or.inl ⟨by kernel_rfl, ?hy⟩) (by assumption) ?_
  case hy =>
    intro w' hSw
    try dsimp only at hSw
    simp [execOp, Act.eval, load_ring hSw, Result.andThen]
  simp only [Act.put, List.setIfInBounds_toArray, List.set_cons_zero, List.set_cons_succ]
  refine takeH 4 (some 9) (v := ?_) rfl (by kernel_rfl) (by kernel_rfl) (by kernel_rfl) (by kernel_rfl) (fun _ _ _ h => h) (Or.inl ⟨by kernel_rfl, ?hy⟩) (by assumption) ?_
  case hy =>
    intro w' hSw
    clear hSw
    first
      | (go_simp; done)
      | (go_simp; with_reducible rfl)
  simp only [Act.put, List.setIfInBounds_toArray, List.set_cons_zero, List.set_cons_succ]
  refine takeH 5 (some 10) (v := ?_) rfl (by kernel_rfl) (by kernel_rfl) (by kernel_rfl) (by kernel_rfl) (fun _ _ _ h => h) (Or.inl ⟨by kernel_rfl, ?hy⟩) (by assumption) ?_
  case hy =>
    intro w' hSw
    clear hSw
    first
      | (go_simp; done)
      | (go_simp; with_reducible rfl)
  simp only [Act.put, List.setIfInBounds_toArray, List.set_cons_zero, List.set_cons_succ]
  refine takeH 6 (some 11) (v := ?_) rfl (by kernel_rfl) (by kernel_rfl) (by kernel_rfl) (by kernel_rfl) (fun _ _ _ h => h) (Or.inl ⟨by kernel_rfl, ?hy⟩) (by assumption) ?_
  case hy =>
    intro w' hSw
    clear hSw
    first
      | (go_simp; done)
      | (go_simp; with_reducible rfl)
  simp only [Act.put, List.setIfInBounds_toArray, List.set_cons_zero, List.set_cons_succ]
  refine takeH 7 (some 12) (v := ?_) rfl (by kernel_rfl) (by kernel_rfl) (by kernel_rfl) (by kernel_rfl) (fun _ _ _ h => h) (Or.inl ⟨by kernel_rfl, ?hy⟩) (by assumption) ?_
  case hy =>
    intro w' hSw
    try dsimp only at hSw
    obtain ⟨yf, y0, y1, y2, y3, y4, y5, y6, y7, y8, y9, y10, y11⟩ := freeR hSw
    clear yf y0 y1 y2 y3 y4 y5 y6 y7 hSw
    first
      | (go_simp; done)
      | (go_simp; with_reducible rfl)
  simp only [Act.put, List.setIfInBounds_toArray, List.set_cons_zero, List.set_cons_succ]
  refine takeH 8 (some 13) (v := ?_) rfl (by kernel_rfl) (by kernel_rfl) (by kernel_rfl) (by kernel_rfl) (fun _ _ _ h => h) (Or.inl ⟨by kernel_rfl, ?hy⟩) (by assumption) ?_
  case hy =>
    intro w' hSw
    clear hSw
    first
      | (go_simp; done)
      | (go_simp; with_reducible rfl)
  simp only [Act.put, List.setIfInBounds_toArray, List.set_cons_zero, List.set_cons_succ]
  refine takeH 9 (some 14) (v := ?_) rfl (by kernel_rfl) (by kernel_rfl) (by kernel_rfl) (by kernel_rfl) (fun _ _ _ h => h) (Or.inl ⟨by kernel_rfl, ?hy⟩) (by assumption) ?_
  case hy =>
    intro w' hSw
    clear hSw
    first
      | (go_simp; done)
      | (go_simp; with_reducible rfl)
  simp only [Act.put, List.setIfInBounds_toArray, List.set_cons_zero, List.set_cons_succ]
  refine takeH 10 (some 15) (v := ?_) rfl (by kernel_rfl) (by kernel_rfl) (by kernel_rfl) (by kernel_rfl) (fun _ _ _ h => h) (Or.inl ⟨by kernel_rfl, ?hy⟩) (by assumption) ?_
  case hy =>
    intro w' hSw
    clear hSw
    first
      | (go_simp; done)
      | (go_simp; with_reducible rfl)
  simp only [Act.put, List.setIfInBounds_toArray, List.set_cons_zero, List.set_cons_succ]
  refine takeH 11 (some 16) (v := ?_) rfl (by kernel_rfl) (by kernel_rfl) (by kernel_rfl) (by kernel_rfl) (fun _ _ _ h => h) (Or.inl ⟨by kernel_rfl, ?hy⟩) (by assumption) ?_
  case hy =>
    intro w' hSw
    try dsimp only at hSw
    obtain ⟨yf, y0, y1, y2, y3, y4, y5, y6, y7, y8, y9, y10, y11⟩ := freeR hSw
    clear yf y0 y1 y2 y3 y4 y5 y6 y7 hSw
    first
      | (go_simp; done)
      | (go_simp; with_reducible rfl)
  simp only [Act.put, List.setIfInBounds_toArray, List.set_cons_zero, List.set_cons_succ]
  refine takeH 13 (some 18) (v := ?_) rfl (by kernel_rfl) (by kernel_rfl) (by kernel_rfl) (by kernel_rfl) (fun _ _ _ h => h) (Or.inl ⟨by kernel_rfl, ?hy⟩) (by assumption) ?_
  case hy =>
    intro w' hSw
    clear hSw
    first
      | (go_simp; done)
      | (go_simp; with_reducible rfl)
  simp only [Act.put, List.setIfInBounds_toArray, List.set_cons_zero, List.set_cons_succ]
  refine takeH 14 (some 19) (v := ?_) rfl (by kernel_rfl) (by kernel_rfl) (by kernel_rfl) (by kernel_rfl) (fun _ _ _ h => h) (Or.inl ⟨by kernel_rfl, ?hy⟩) (by assumption) ?_
  case hy =>
    intro w' hSw
    clear hSw
    first
      | (go_simp; done)
      | (go_simp; with_reducible rfl)
  simp only [Act.put, List.setIfInBounds_toArray, List.set_cons_zero, List.set_cons_succ]
  refine takeH 15 (some 20) (v := ?_) rfl (by kernel_rfl) (by kernel_rfl) (by kernel_rfl) (by kernel_rfl) (fun _ _ _ h => h) (Or.inl ⟨by kernel_rfl, ?hy⟩) (by assumption) ?_
  case hy =>
    intro w' hSw
    clear hSw
    first
      | (go_simp; done)
      | (go_simp; with_reducible rfl)
  simp only [Act.put, List.setIfInBounds_toArray, List.set_cons_zero, List.set_cons_succ]
  refine takeH 16 (some 21) (v := ?_) rfl (by kernel_rfl) (by kernel_rfl) (by kernel_rfl) (by kernel_rfl) (fun _ _ _ h => h) (Or.inl ⟨by kernel_rfl, ?hy⟩) (by assumption) ?_
  case hy =>
    intro w' hSw
    try dsimp only at hSw
    obtain ⟨yf, y0, y1, y2, y3, y4, y5, y6, y7, y8, y9, y10, y11⟩ := freeR hSw
    clear yf y0 y1 y2 y3 y4 y5 y6 y7 hSw
    first
      | (go_simp; done)
      | (go_simp; with_reducible rfl)
  simp only [Act.put, List.setIfInBounds_toArray, List.set_cons_zero, List.set_cons_succ]
  refine takeH 18 (some 23) (v := ?_) rfl (by kernel_rfl) (by kernel_rfl) (by kernel_rfl) (by kernel_rfl) (fun _ _ _ h => h) (Or.inl ⟨by kernel_rfl, ?hy⟩) (by assumption) ?_
  case hy =>
    intro w' hSw
    clear hSw
    first
      | (go_simp; done)
      | (go_simp; with_reducible rfl)
  simp only [Act.put, List.setIfInBounds_toArray, List.set_cons_zero, List.set_cons_succ]
  refine takeH 19 (some 24) (v := ?_) rfl (by kernel_rfl) (by kernel_rfl) (by kernel_rfl) (by kernel_rfl) (fun _ _ _ h => h) (Or.inl ⟨by kernel_rfl, ?hy⟩) (by assumption) ?_
  case hy =>
    intro w' hSw
    clear hSw
    first
      | (go_simp; done)
      | (go_simp; with_reducible rfl)
  simp only [Act.put, List.setIfInBounds_toArray, List.set_cons_zero, List.set_cons_succ]
  refine takeH 20 (some 25) (v := ?_) rfl (by kernel_rfl) (by kernel_rfl) (by kernel_rfl) (by kernel_rfl) (fun _ _ _ h => h) (Or.inl ⟨by kernel_rfl, ?hy⟩) (by assumption) ?_
  case hy =>
    intro w' hSw
    clear hSw
    first
      | (go_simp; done)
      | (go_simp; with_reducible rfl)
  simp only [Act.put, List.setIfInBounds_toArray, List.set_cons_zero, List.set_cons_succ]
  refine takeH 21 (some 26) (v := ?_) rfl (by kernel_rfl) (by kernel_rfl) (by kernel_rfl) (by kernel_rfl) (fun _ _ _ h => h) (Or.inl ⟨by kernel_rfl, ?hy⟩) (by assumption) ?_
  case hy =>
    intro w' hSw
    try dsimp only at hSw
    obtain ⟨yf, y0, y1, y2, y3, y4, y5, y6, y7, y8, y9, y10, y11⟩ := freeR hSw
    clear yf y0 y1 y2 y3 y4 y5 y6 y7 hSw
    first
      | (go_simp; done)
      | (go_simp; with_reducible rfl)
  simp only [Act.put, List.setIfInBounds_toArray, List.set_cons_zero, List.set_cons_succ]
  refine wpAnyH_ready (rs := [12]) (by kernel_rfl) (by simp) ?_
  refine AllReadyH.cons rfl (fun K hK => ?_) AllReadyH.nil
  rw [if_pos (by kernel_rfl)]
  go_simp
  refine (tclone_any T0 T1 bt h _ w.drew (HT.out.below (Below.refl _ _).drew)).mono ?_
  rintro e v1 ⟨bo, rfl, hb1⟩
  have hq1 := (Below.refl w.heap.size w).drew.trans hb1
  have hS1 := block_below (w := w.drew) hS hb1 hbl
  have Hq1 := Lib.hid hq1
  clear hb1 hq1
  refine hK.out _ _ hS1 (fun _ => ?_)
  clear hK K
  simp only [List.setIfInBounds_toArray, List.set_cons_zero, List.set_cons_succ]
  refine wpAnyH_ready (rs := [17]) (by kernel_rfl) (by simp) ?_
  refine AllReadyH.cons rfl (fun K hK => ?_) AllReadyH.nil
  rw [if_pos (by kernel_rfl)]
  go_simp
  refine (sdclone_any L A L.length c v1 ((HO.out.below Hq1.out (Nat.le_refl _)).more Hq1.out.size) hn).mono ?_
  rintro e v2 ⟨A2, c2, rfl, ho2, hb2⟩
  have hS2 := block_below hS1 hb2 (block_lt hS1)
  have HO2 := Lib.hid ho2
  have Hq2 := Lib.hid (Hq1.out.trans (hb2.mono Hq1.out.size))
  have Hs2 := Lib.hid hb2.size
  clear ho2 hb2
  refine hK.out _ _ hS2 (fun _ => ?_)
  clear hK K
  simp only [List.setIfInBounds_toArray, List.set_cons_zero, List.set_cons_succ]
  refine wpAnyH_ready (rs := [22]) (by kernel_rfl) (by simp) ?_
  refine AllReadyH.cons rfl (fun K hK => ?_) AllReadyH.nil
  rw [if_pos (by kernel_rfl)]
  go_simp
  refine (mcloneD_any L mb v2 (HP.out.same (Hq2.out.block mb HP.out.lt))).mono ?_
  rintro e v3 ⟨rfl, hp3, hb3⟩
  have hS3 := block_below hS2 hb3 (block_lt hS2)
  have HP3 := Lib.hid hp3
  have HO3 := Lib.hid (own_below HO2.out hb3)
  have Hq3 := Lib.hid (Hq2.out.trans (hb3.mono Hq2.out.size))
  have Hlt := Lib.hid hp3.lt
  clear hp3 hb3
  refine hK.out _ _ hS3 (fun _ => ?_)
  clear hK K
  simp only [List.setIfInBounds_toArray, List.set_cons_zero, List.set_cons_succ]
  refine takeH 23 (some 28) (v := ?_) rfl (by kernel_rfl) (by kernel_rfl) (by kernel_rfl) (by kernel_rfl) (fun _ _ _ h => h) (Or.inl ⟨by kernel_rfl, ?hy⟩) (by assumption) ?_
  case hy =>
    intro w' hSw
    clear hSw
    first
      | (go_simp; done)
      | (go_simp; with_reducible rfl)
  simp only [Act.put, List.setIfInBounds_toArray, List.set_cons_zero, List.set_cons_succ]
  refine wpAnyH_ready (rs := [24]) (by kernel_rfl) (by simp) ?_
  refine AllReadyH.cons rfl (fun K hK => ?_) AllReadyH.nil
  rw [if_pos (by kernel_rfl)]
  go_simp
  have HB4 : Hid ((v3.alloc (.cells #[.int .u8 (s.x0 : Int), .int .u8 (s.x1 : Int), .int .u8 (s.x2 : Int), .int .u8 (s.x3 : Int), .int .u8 (s.x4 : Int), .int .u8 (s.x5 : Int), .int .u8 (s.x6 : Int), .int .u8 (s.x7 : Int), .int .i64 (h : Int), .pointer (some ⟨bo, 0, none⟩), .slice A2 L.length c2, .map (some v2.heap.size)] 62)).heap[v3.heap.size]? = some (.cells (ringC s h (.pointer (some ⟨bo, 0, none⟩)) (.slice A2 L.length c2) v2.heap.size) 62 (0, 0))) := heap_alloc_new v3 _
  have HO4 := Lib.hid (HO3.out.alloc (.cells #[.int .u8 (s.x0 : Int), .int .u8 (s.x1 : Int), .int .u8 (s.x2 : Int), .int .u8 (s.x3 : Int), .int .u8 (s.x4 : Int), .int .u8 (s.x5 : Int), .int .u8 (s.x6 : Int), .int .u8 (s.x7 : Int), .int .i64 (h : Int), .pointer (some ⟨bo, 0, none⟩), .slice A2 L.length c2, .map (some v2.heap.size)] 62)); have HP4 := Lib.hid (HP3.out.same (Below.heap_alloc v3 (.cells #[.int .u8 (s.x0 : Int), .int .u8 (s.x1 : Int), .int .u8 (s.x2 : Int), .int .u8 (s.x3 : Int), .int .u8 (s.x4 : Int), .int .u8 (s.x5 : Int), .int .u8 (s.x6 : Int), .int .u8 (s.x7 : Int), .int .i64 (h : Int), .pointer (some ⟨bo, 0, none⟩), .slice A2 L.length c2, .map (some v2.heap.size)] 62) _ HP3.out.lt))
  have Hq4 := Lib.hid (Hq3.out.alloc Hq3.out.size (.cells #[.int .u8 (s.x0 : Int), .int .u8 (s.x1 : Int), .int .u8 (s.x2 : Int), .int .u8 (s.x3 : Int), .int .u8 (s.x4 : Int), .int .u8 (s.x5 : Int), .int .u8 (s.x6 : Int), .int .u8 (s.x7 : Int), .int .i64 (h : Int), .pointer (some ⟨bo, 0, none⟩), .slice A2 L.length c2, .map (some v2.heap.size)] 62))
  have hS4 := block_alloc hS3 (.cells #[.int .u8 (s.x0 : Int), .int .u8 (s.x1 : Int), .int .u8 (s.x2 : Int), .int .u8 (s.x3 : Int), .int .u8 (s.x4 : Int), .int .u8 (s.x5 : Int), .int .u8 (s.x6 : Int), .int .u8 (s.x7 : Int), .int .i64 (h : Int), .pointer (some ⟨bo, 0, none⟩), .slice A2 L.length c2, .map (some v2.heap.size)] 62)
  have hs4 : (v3.alloc (.cells #[.int .u8 (s.x0 : Int), .int .u8 (s.x1 : Int), .int .u8 (s.x2 : Int), .int .u8 (s.x3 : Int), .int .u8 (s.x4 : Int), .int .u8 (s.x5 : Int), .int .u8 (s.x6 : Int), .int .u8 (s.x7 : Int), .int .i64 (h : Int), .pointer (some ⟨bo, 0, none⟩), .slice A2 L.length c2, .map (some v2.heap.size)] 62)).heap.size = v3.heap.size + 1 := by simp
  refine hK.out _ _ hS4 (fun _ => ?_)
  clear hK K
  simp only [List.setIfInBounds_toArray, List.set_cons_zero, List.set_cons_succ]
  refine takeH 25 (some 2) (v := ?_) rfl (by kernel_rfl) (by kernel_rfl) (by kernel_rfl) (by kernel_rfl) (fun _ _ _ h => h) (Or.inl ⟨by kernel_rfl, ?hy⟩) (by assumption) ?_
  case hy =>
    intro w' hSw
    clear hSw
    first
      | (go_simp; done)
      | (go_simp; with_reducible rfl)
  simp only [Act.put, List.setIfInBounds_toArray, List.set_cons_zero, List.set_cons_succ]
  refine wpAnyH_done (by kernel_rfl) ?_ _
  go_wp2
  go_ret
  have h1 := Hq1.out.size
  have h2 := Hq2.out.size
  have h3 := Hlt.out
  have h4 := Hs2.out
  refine ⟨fun k => w.heap.size ≤ k ∧ k < (v3.alloc (.cells #[.int .u8 (s.x0 : Int), .int .u8 (s.x1 : Int), .int .u8 (s.x2 : Int), .int .u8 (s.x3 : Int), .int .u8 (s.x4 : Int), .int .u8 (s.x5 : Int), .int .u8 (s.x6 : Int), .int .u8 (s.x7 : Int), .int .i64 (h : Int), .pointer (some ⟨bo, 0, none⟩), .slice A2 L.length c2, .map (some v2.heap.size)] 62)).heap.size, v3.heap.size, v2.heap.size, .pointer (some ⟨bo, 0, none⟩), rfl, ⟨⟨A2, c2, HB4.out, own_down HO4.out h1, fun g hg => ⟨by have := (HO4.out.lt g hg).1; omega, (HO4.out.lt g hg).2⟩⟩, HP4.out, HN.out, HOk.out, ⟨by omega, by omega⟩, ⟨by omega, by omega⟩, fun k hk => hk⟩, Hq4.out⟩
end Go.Proofs.Ytmpklplojfjfbaa
namespace Go.Proofs.Ytmpklplojfjfbaa
open Go.RowKit Go.Lib



/-- A ring and all that it holds; what it makes later lies beside. -/
structure Held (w : World) (W : Nat) (F : Nat → Prop) (T0 T1 br : Nat) (r : RingM) : Prop where
  at_ : ∃ B, W ≤ B ∧ RingAt w B F T0 T1 br r
theorem Held.lt {w : World} {W : Nat} {F : Nat → Prop} {T0 T1 br : Nat} {r : RingM} (h : Held w W F T0 T1 br r) : ∀ k, foot F T0 T1 k → W ≤ k ∧ k < w.heap.size := by
  obtain ⟨B, hB, a⟩ := h.at_
  intro k hk
  have := a.foot_lt k hk
  omega
theorem Held.below {w w' : World} {W : Nat} {F : Nat → Prop} {T0 T1 br : Nat} {r : RingM} (h : Held w W F T0 T1 br r) (hb : Below w.heap.size w w') : Held w' W F T0 T1 br r := by
  obtain ⟨B, hB, a⟩ := h.at_
  exact ⟨B, hB, a.below hb⟩
theorem Held.other {w w' : World} {W : Nat} {F G : Nat → Prop} {T0 T1 br : Nat} {r : RingM} (h : Held w W F T0 T1 br r) (hc : Chg G w w') (hd : ∀ k, G k → ¬ foot F T0 T1 k) : Held w' W F T0 T1 br r := by
  obtain ⟨B, hB, a⟩ := h.at_
  exact ⟨B, hB, a.other hc hd⟩
/-- Two that hold nothing together. -/
def Apart2 (F G : Nat → Prop) (T0 T1 S0 S1 : Nat) : Prop := ∀ k, foot F T0 T1 k → ¬ foot G S0 S1 k
theorem Apart2.symm {F G : Nat → Prop} {T0 T1 S0 S1 : Nat} (h : Apart2 F G T0 T1 S0 S1) : Apart2 G F S0 S1 T0 T1 := fun k h1 h2 => h k h2 h1
theorem Apart2.more {w w' : World} {F G : Nat → Prop} {T0 T1 S0 S1 : Nat} (h : Apart2 F G T0 T1 S0 S1) (hG : ∀ k, foot G S0 S1 k → k < w.heap.size) : Apart2 (more F w w') G T0 T1 S0 S1 := by
  rintro k ((h1 | h1) | h1) h2
  · exact h k (.inl h1) h2
  · have := hG k h2; omega
  · exact h k (.inr h1) h2
/-- Three rings beside one another. -/
structure Tri (w : World) (W : Nat) (F G H : Nat → Prop) (T0 T1 S0 S1 U0 U1 bx by_ bz : Nat) (x y z : RingM) : Prop where
  x : Held w W F T0 T1 bx x
  y : Held w W G S0 S1 by_ y
  z : Held w W H U0 U1 bz z
  xy : Apart2 F G T0 T1 S0 S1
  xz : Apart2 F H T0 T1 U0 U1
  yz : Apart2 G H S0 S1 U0 U1
theorem Tri.below {w w' : World} {W : Nat} {F G H : Nat → Prop} {T0 T1 S0 S1 U0 U1 bx by_ bz : Nat} {x y z : RingM} (t : Tri w W F G H T0 T1 S0 S1 U0 U1 bx by_ bz x y z) (hb : Below w.heap.size w w') : Tri w' W F G H T0 T1 S0 S1 U0 U1 bx by_ bz x y z := ⟨t.x.below hb, t.y.below hb, t.z.below hb, t.xy, t.xz, t.yz⟩
theorem Tri.rot {w : World} {W : Nat} {F G H : Nat → Prop} {T0 T1 S0 S1 U0 U1 bx by_ bz : Nat} {x y z : RingM} (t : Tri w W F G H T0 T1 S0 S1 U0 U1 bx by_ bz x y z) : Tri w W G H F S0 S1 U0 U1 T0 T1 by_ bz bx y z x := ⟨t.y, t.z, t.x, t.yz, t.xy.symm, t.xz.symm⟩
theorem Tri.first {w w' : World} {W : Nat} {F G H : Nat → Prop} {T0 T1 S0 S1 U0 U1 bx by_ bz : Nat} {x y z x' : RingM} (t : Tri w W F G H T0 T1 S0 S1 U0 U1 bx by_ bz x y z) (hc : Chg F w w') (hx : Held w' W (more F w w') T0 T1 bx x') : Tri w' W (more F w w') G H T0 T1 S0 S1 U0 U1 bx by_ bz x' y z :=
  ⟨hx, t.y.other hc (fun k hk => t.xy k (.inl hk)), t.z.other hc (fun k hk => t.xz k (.inl hk)), t.xy.more (fun k hk => (t.y.lt k hk).2), t.xz.more (fun k hk => (t.z.lt k hk).2), t.yz⟩
/-- A ring reserves. -/
theorem held_reserve {w : World} {W : Nat} {F : Nat → Prop} {T0 T1 br : Nat} {r : RingM} (m : D8) (h : Held w W F T0 T1 br r) (hm : m.ok) :
    Calls Try.prog 9 #[.pointer (some ⟨br, 0, none⟩), .agg #[.int .u8 (m.x0 : Int), .int .u8 (m.x1 : Int), .int .u8 (m.x2 : Int), .int .u8 (m.x3 : Int), .int .u8 (m.x4 : Int), .int .u8 (m.x5 : Int), .int .u8 (m.x6 : Int), .int .u8 (m.x7 : Int)]] w fun e w' => e = .returned (.tuple #[.int .i64 ((r.reserve m).2.1 : Int), .int .i64 ((r.reserve m).2.2 : Int)]) ∧ Chg F w w' ∧ Held w' W (more F w w') T0 T1 br (r.reserve m).1 := by
  obtain ⟨B, hB, a⟩ := h.at_
  refine (reserve_any m a hm a.hB).mono ?_
  rintro e w' ⟨rfl, hc, ha⟩
  exact ⟨rfl, hc, ⟨B, hB, ha⟩⟩
theorem held_new {w u : World} {W : Nat} {F : Nat → Prop} {T0 T1 br : Nat} {r : RingM} (h : RingAt w u.heap.size F T0 T1 br r) (hW : W ≤ u.heap.size) : Held w W F T0 T1 br r := ⟨_, hW, h⟩
end Go.Proofs.Ytmpklplojfjfbaa
