/- A tree cloned: the walk of its Clone, as far as a ring's needs it (what is made is not told). Condition: none. -/
import Derived.Test.YtmpklplojfjfbaaDoorKeN
import Derived.Test.YtmpklplojfjfbaaDoorKeI
namespace Go.Proofs.YtmpklplojfjfbaaDoor
open Go.RowKit Go.Lib



theorem nodes_cells {w : World} {bt h : Nat} {v : Value} {gs : Nat → Nat} (hb : w.heap[bt]? = some (.cells (treeC v h gs (h + 1)) 84 (0, 0))) (j : Nat) (hj : j < 13) : w.cell? ⟨bt, 1 + j, none⟩ = some (nodeV h gs (h + 1) j) := by
  rw [block_cell hb, treeC_node _ _ _ _ _ hj]
theorem idx_nodes (h : Nat) (gs : Nat → Nat) (k : Nat) (hk : k < 13) (w : World) : (Instr.index 82 (.agg #[nodeV h gs (h + 1) 0, nodeV h gs (h + 1) 1, nodeV h gs (h + 1) 2, nodeV h gs (h + 1) 3, nodeV h gs (h + 1) 4, nodeV h gs (h + 1) 5, nodeV h gs (h + 1) 6, nodeV h gs (h + 1) 7, nodeV h gs (h + 1) 8, nodeV h gs (h + 1) 9, nodeV h gs (h + 1) 10, nodeV h gs (h + 1) 11, nodeV h gs (h + 1) 12]) (.int .i64 (k : Int))).run Tryd.prog w = .ok (nodeV h gs (h + 1) k) w := by
  have i0 : ∀ w, (Instr.index 82 (.agg #[nodeV h gs (h + 1) 0, nodeV h gs (h + 1) 1, nodeV h gs (h + 1) 2, nodeV h gs (h + 1) 3, nodeV h gs (h + 1) 4, nodeV h gs (h + 1) 5, nodeV h gs (h + 1) 6, nodeV h gs (h + 1) 7, nodeV h gs (h + 1) 8, nodeV h gs (h + 1) 9, nodeV h gs (h + 1) 10, nodeV h gs (h + 1) 11, nodeV h gs (h + 1) 12]) (.int .i64 0)).run Tryd.prog w = .ok (nodeV h gs (h + 1) 0) w := fun _ => by kernel_rfl
  have i1 : ∀ w, (Instr.index 82 (.agg #[nodeV h gs (h + 1) 0, nodeV h gs (h + 1) 1, nodeV h gs (h + 1) 2, nodeV h gs (h + 1) 3, nodeV h gs (h + 1) 4, nodeV h gs (h + 1) 5, nodeV h gs (h + 1) 6, nodeV h gs (h + 1) 7, nodeV h gs (h + 1) 8, nodeV h gs (h + 1) 9, nodeV h gs (h + 1) 10, nodeV h gs (h + 1) 11, nodeV h gs (h + 1) 12]) (.int .i64 1)).run Tryd.prog w = .ok (nodeV h gs (h + 1) 1) w := fun _ => by kernel_rfl
  have i2 : ∀ w, (Instr.index 82 (.agg #[nodeV h gs (h + 1) 0, nodeV h gs (h + 1) 1, nodeV h gs (h + 1) 2, nodeV h gs (h + 1) 3, nodeV h gs (h + 1) 4, nodeV h gs (h + 1) 5, nodeV h gs (h + 1) 6, nodeV h gs (h + 1) 7, nodeV h gs (h + 1) 8, nodeV h gs (h + 1) 9, nodeV h gs (h + 1) 10, nodeV h gs (h + 1) 11, nodeV h gs (h + 1) 12]) (.int .i64 2)).run Tryd.prog w = .ok (nodeV h gs (h + 1) 2) w := fun _ => by kernel_rfl
  have i3 : ∀ w, (Instr.index 82 (.agg #[nodeV h gs (h + 1) 0, nodeV h gs (h + 1) 1, nodeV h gs (h + 1) 2, nodeV h gs (h + 1) 3, nodeV h gs (h + 1) 4, nodeV h gs (h + 1) 5, nodeV h gs (h + 1) 6, nodeV h gs (h + 1) 7, nodeV h gs (h + 1) 8, nodeV h gs (h + 1) 9, nodeV h gs (h + 1) 10, nodeV h gs (h + 1) 11, nodeV h gs (h + 1) 12]) (.int .i64 3)).run Tryd.prog w = .ok (nodeV h gs (h + 1) 3) w := fun _ => by kernel_rfl
  have i4 : ∀ w, (Instr.index 82 (.agg #[nodeV h gs (h + 1) 0, nodeV h gs (h + 1) 1, nodeV h gs (h + 1) 2, nodeV h gs (h + 1) 3, nodeV h gs (h + 1) 4, nodeV h gs (h + 1) 5, nodeV h gs (h + 1) 6, nodeV h gs (h + 1) 7, nodeV h gs (h + 1) 8, nodeV h gs (h + 1) 9, nodeV h gs (h + 1) 10, nodeV h gs (h + 1) 11, nodeV h gs (h + 1) 12]) (.int .i64 4)).run Tryd.prog w = .ok (nodeV h gs (h + 1) 4) w := fun _ => by kernel_rfl
  have i5 : ∀ w, (Instr.index 82 (.agg #[nodeV h gs (h + 1) 0, nodeV h gs (h + 1) 1, nodeV h gs (h + 1) 2, nodeV h gs (h + 1) 3, nodeV h gs (h + 1) 4, nodeV h gs (h + 1) 5, nodeV h gs (h + 1) 6, nodeV h gs (h + 1) 7, nodeV h gs (h + 1) 8, nodeV h gs (h + 1) 9, nodeV h gs (h + 1) 10, nodeV h gs (h + 1) 11, nodeV h gs (h + 1) 12]) (.int .i64 5)).run Tryd.prog w = .ok (nodeV h gs (h + 1) 5) w := fun _ => by kernel_rfl
  have i6 : ∀ w, (Instr.index 82 (.agg #[nodeV h gs (h + 1) 0, nodeV h gs (h + 1) 1, nodeV h gs (h + 1) 2, nodeV h gs (h + 1) 3, nodeV h gs (h + 1) 4, nodeV h gs (h + 1) 5, nodeV h gs (h + 1) 6, nodeV h gs (h + 1) 7, nodeV h gs (h + 1) 8, nodeV h gs (h + 1) 9, nodeV h gs (h + 1) 10, nodeV h gs (h + 1) 11, nodeV h gs (h + 1) 12]) (.int .i64 6)).run Tryd.prog w = .ok (nodeV h gs (h + 1) 6) w := fun _ => by kernel_rfl
  have i7 : ∀ w, (Instr.index 82 (.agg #[nodeV h gs (h + 1) 0, nodeV h gs (h + 1) 1, nodeV h gs (h + 1) 2, nodeV h gs (h + 1) 3, nodeV h gs (h + 1) 4, nodeV h gs (h + 1) 5, nodeV h gs (h + 1) 6, nodeV h gs (h + 1) 7, nodeV h gs (h + 1) 8, nodeV h gs (h + 1) 9, nodeV h gs (h + 1) 10, nodeV h gs (h + 1) 11, nodeV h gs (h + 1) 12]) (.int .i64 7)).run Tryd.prog w = .ok (nodeV h gs (h + 1) 7) w := fun _ => by kernel_rfl
  have i8 : ∀ w, (Instr.index 82 (.agg #[nodeV h gs (h + 1) 0, nodeV h gs (h + 1) 1, nodeV h gs (h + 1) 2, nodeV h gs (h + 1) 3, nodeV h gs (h + 1) 4, nodeV h gs (h + 1) 5, nodeV h gs (h + 1) 6, nodeV h gs (h + 1) 7, nodeV h gs (h + 1) 8, nodeV h gs (h + 1) 9, nodeV h gs (h + 1) 10, nodeV h gs (h + 1) 11, nodeV h gs (h + 1) 12]) (.int .i64 8)).run Tryd.prog w = .ok (nodeV h gs (h + 1) 8) w := fun _ => by kernel_rfl
  have i9 : ∀ w, (Instr.index 82 (.agg #[nodeV h gs (h + 1) 0, nodeV h gs (h + 1) 1, nodeV h gs (h + 1) 2, nodeV h gs (h + 1) 3, nodeV h gs (h + 1) 4, nodeV h gs (h + 1) 5, nodeV h gs (h + 1) 6, nodeV h gs (h + 1) 7, nodeV h gs (h + 1) 8, nodeV h gs (h + 1) 9, nodeV h gs (h + 1) 10, nodeV h gs (h + 1) 11, nodeV h gs (h + 1) 12]) (.int .i64 9)).run Tryd.prog w = .ok (nodeV h gs (h + 1) 9) w := fun _ => by kernel_rfl
  have i10 : ∀ w, (Instr.index 82 (.agg #[nodeV h gs (h + 1) 0, nodeV h gs (h + 1) 1, nodeV h gs (h + 1) 2, nodeV h gs (h + 1) 3, nodeV h gs (h + 1) 4, nodeV h gs (h + 1) 5, nodeV h gs (h + 1) 6, nodeV h gs (h + 1) 7, nodeV h gs (h + 1) 8, nodeV h gs (h + 1) 9, nodeV h gs (h + 1) 10, nodeV h gs (h + 1) 11, nodeV h gs (h + 1) 12]) (.int .i64 10)).run Tryd.prog w = .ok (nodeV h gs (h + 1) 10) w := fun _ => by kernel_rfl
  have i11 : ∀ w, (Instr.index 82 (.agg #[nodeV h gs (h + 1) 0, nodeV h gs (h + 1) 1, nodeV h gs (h + 1) 2, nodeV h gs (h + 1) 3, nodeV h gs (h + 1) 4, nodeV h gs (h + 1) 5, nodeV h gs (h + 1) 6, nodeV h gs (h + 1) 7, nodeV h gs (h + 1) 8, nodeV h gs (h + 1) 9, nodeV h gs (h + 1) 10, nodeV h gs (h + 1) 11, nodeV h gs (h + 1) 12]) (.int .i64 11)).run Tryd.prog w = .ok (nodeV h gs (h + 1) 11) w := fun _ => by kernel_rfl
  have i12 : ∀ w, (Instr.index 82 (.agg #[nodeV h gs (h + 1) 0, nodeV h gs (h + 1) 1, nodeV h gs (h + 1) 2, nodeV h gs (h + 1) 3, nodeV h gs (h + 1) 4, nodeV h gs (h + 1) 5, nodeV h gs (h + 1) 6, nodeV h gs (h + 1) 7, nodeV h gs (h + 1) 8, nodeV h gs (h + 1) 9, nodeV h gs (h + 1) 10, nodeV h gs (h + 1) 11, nodeV h gs (h + 1) 12]) (.int .i64 12)).run Tryd.prog w = .ok (nodeV h gs (h + 1) 12) w := fun _ => by kernel_rfl
  have : k = 0 ∨ k = 1 ∨ k = 2 ∨ k = 3 ∨ k = 4 ∨ k = 5 ∨ k = 6 ∨ k = 7 ∨ k = 8 ∨ k = 9 ∨ k = 10 ∨ k = 11 ∨ k = 12 := by omega
  rcases this with rfl | rfl | rfl | rfl | rfl | rfl | rfl | rfl | rfl | rfl | rfl | rfl | rfl
  · exact i0 w
  · exact i1 w
  · exact i2 w
  · exact i3 w
  · exact i4 w
  · exact i5 w
  · exact i6 w
  · exact i7 w
  · exact i8 w
  · exact i9 w
  · exact i10 w
  · exact i11 w
  · exact i12 w
theorem clone_keep {w w' : World} {b : Nat} {cs : Array Value} {t : TypeId} (h : w.heap[b]? = some (.cells cs t (0, 0))) (hb : Below w.heap.size w w') : w'.heap[b]? = some (.cells cs t (0, 0)) := block_below h hb (block_lt h)
set_option maxRecDepth 100000 in
set_option maxHeartbeats 4000000 in
theorem tclone_any (T0 T1 bt h : Nat) (l : List D8) (w : World) (t : TreeAt w T0 T1 bt h l) :
    Calls Tryd.prog 31 #[.pointer (some ⟨bt, 0, none⟩)] w fun e w' => ∃ bo, e = .returned (.pointer (some ⟨bo, 0, none⟩)) ∧ Below w.heap.size w w' := by
  have Ht := Lib.hid t
  obtain ⟨A, c, gs, hb, ho, _, hL⟩ := t.blk
  have hh := t.hh
  have hp := pow_le8 hh
  have c0 : w.cell? ⟨bt, 0, none⟩ = some (.slice A (2 ^ h) c) := (block_cell hb 0).trans rfl
  have hbl := block_lt hb
  have Hb := Lib.hid hb; have Ho := Lib.hid (Rd.of_own ho); have HL := Lib.hid hL
  have hlb : 2 ^ h ≤ 1000000 := by omega
  clear t hb ho hL
  go_enter Tryd.func31, Tryd.ntmps31
  go_wp2_with fail
  refine (sdclone_any l A (2 ^ h) c w Ho.out hlb).mono ?_
  rintro e w1 ⟨A1, c1, rfl, _, hb1⟩
  have HB1 := Lib.hid (block_below Hb.out hb1 hbl); have Hw1 := Lib.hid hb1
  have hT1 := Ht.out.hT
  clear hb1 c0
  have HB2 : Hid ((w1.alloc (.cells #[.slice A1 (2 ^ h) c1, .slice none 0 0, .slice none 0 0, .slice none 0 0, .slice none 0 0, .slice none 0 0, .slice none 0 0, .slice none 0 0, .slice none 0 0, .slice none 0 0, .slice none 0 0, .slice none 0 0, .slice none 0 0, .slice none 0 0] 84)).heap[w1.heap.size]? = some (.cells #[.slice A1 (2 ^ h) c1, .slice none 0 0, .slice none 0 0, .slice none 0 0, .slice none 0 0, .slice none 0 0, .slice none 0 0, .slice none 0 0, .slice none 0 0, .slice none 0 0, .slice none 0 0, .slice none 0 0, .slice none 0 0, .slice none 0 0] 84 (0, 0))) := heap_alloc_new w1 _
  have Hw2 := Lib.hid (Hw1.out.alloc Hw1.out.size (.cells #[.slice A1 (2 ^ h) c1, .slice none 0 0, .slice none 0 0, .slice none 0 0, .slice none 0 0, .slice none 0 0, .slice none 0 0, .slice none 0 0, .slice none 0 0, .slice none 0 0, .slice none 0 0, .slice none 0 0, .slice none 0 0, .slice none 0 0] 84))
  have HS2 := Lib.hid (block_alloc HB1.out (.cells #[.slice A1 (2 ^ h) c1, .slice none 0 0, .slice none 0 0, .slice none 0 0, .slice none 0 0, .slice none 0 0, .slice none 0 0, .slice none 0 0, .slice none 0 0, .slice none 0 0, .slice none 0 0, .slice none 0 0, .slice none 0 0, .slice none 0 0] 84))
  have hw1s := Hw1.out.size
  go_upto_region 4 with fail
  generalize w1.alloc (.cells #[.slice A1 (2 ^ h) c1, .slice none 0 0, .slice none 0 0, .slice none 0 0, .slice none 0 0, .slice none 0 0, .slice none 0 0, .slice none 0 0, .slice none 0 0, .slice none 0 0, .slice none 0 0, .slice none 0 0, .slice none 0 0, .slice none 0 0] 84) = w2 at *
  have m0 : w2.cell? ⟨bt, 1, none⟩ = some (nodeV h gs (h + 1) 0) := nodes_cells HS2.out 0 (by decide)
  have m1 : w2.cell? ⟨bt, 2, none⟩ = some (nodeV h gs (h + 1) 1) := nodes_cells HS2.out 1 (by decide)
  have m2 : w2.cell? ⟨bt, 3, none⟩ = some (nodeV h gs (h + 1) 2) := nodes_cells HS2.out 2 (by decide)
  have m3 : w2.cell? ⟨bt, 4, none⟩ = some (nodeV h gs (h + 1) 3) := nodes_cells HS2.out 3 (by decide)
  have m4 : w2.cell? ⟨bt, 5, none⟩ = some (nodeV h gs (h + 1) 4) := nodes_cells HS2.out 4 (by decide)
  have m5 : w2.cell? ⟨bt, 6, none⟩ = some (nodeV h gs (h + 1) 5) := nodes_cells HS2.out 5 (by decide)
  have m6 : w2.cell? ⟨bt, 7, none⟩ = some (nodeV h gs (h + 1) 6) := nodes_cells HS2.out 6 (by decide)
  have m7 : w2.cell? ⟨bt, 8, none⟩ = some (nodeV h gs (h + 1) 7) := nodes_cells HS2.out 7 (by decide)
  have m8 : w2.cell? ⟨bt, 9, none⟩ = some (nodeV h gs (h + 1) 8) := nodes_cells HS2.out 8 (by decide)
  have m9 : w2.cell? ⟨bt, 10, none⟩ = some (nodeV h gs (h + 1) 9) := nodes_cells HS2.out 9 (by decide)
  have m10 : w2.cell? ⟨bt, 11, none⟩ = some (nodeV h gs (h + 1) 10) := nodes_cells HS2.out 10 (by decide)
  have m11 : w2.cell? ⟨bt, 12, none⟩ = some (nodeV h gs (h + 1) 11) := nodes_cells HS2.out 11 (by decide)
  have m12 : w2.cell? ⟨bt, 13, none⟩ = some (nodeV h gs (h + 1) 12) := nodes_cells HS2.out 12 (by decide)
  have hbl2 := block_lt HS2.out
  have hidx := Lib.hid (idx_nodes h gs)
  clear HB1 Hw1
  generalize w1.heap.size = bo at *
  go_upto_block 0 with fail
  clear m0 m1 m2 m3 m4 m5 m6 m7 m8 m9 m10 m11 m12
  go_wp2
  go_loopw [19] (fun i wr => ∃ (k : Nat) (cs : Array Value), k ≤ 13 ∧ i = .int .i64 (k : Int) ∧ wr.heap[bo]? = some (.cells cs 84 (0, 0)) ∧ cs.size = 14 ∧ Below w.heap.size w wr) (fun i _ => 13 - (RowKit.intOf i).toNat)
  case atStart => exact ⟨0, _, by omega, rfl, HB2.out, rfl, Hw2.out⟩
  case round =>
    obtain ⟨k, cs, hk, rfl, hB, hcs, hw⟩ := hrel
    have HB := Lib.hid hB; have Hw := Lib.hid hw; have Hcs := Lib.hid hcs
    clear hB hw hcs HB2 Hw2
    by_cases hlt : k < 13
    · have hd1 : decide ((k : Int) < 13) = true := decide_eq_true (by omega)
      have hki : (k : Int) < 13 := by omega
      have Hk := Lib.hid hlt
      have hix := hidx.out k hlt
      obtain ⟨A3, n3, hnv, hrd3, hn3⟩ : ∃ A3 n3, nodeV h gs (h + 1) k = .slice A3 n3 n3 ∧ (∃ L3, Rd wr wr.heap.size 8 A3 n3 (flatD L3)) ∧ n3 ≤ 1000000 := by
        unfold nodeV
        by_cases hkh : k < h + 1
        · rw [if_pos hkh]
          obtain ⟨_, h2, h3⟩ := HL.out k (by omega)
          refine ⟨_, _, rfl, ⟨_, ((h3.rd).below Hw.out (Nat.le_refl _)).more Hw.out.size⟩, ?_⟩
          have := pow_le8 (show h - k ≤ 8 by omega)
          omega
        · rw [if_neg hkh]
          exact ⟨none, 0, rfl, ⟨[], Rd.empty⟩, by decide⟩
      rw [hnv] at hix
      obtain ⟨L3, hrd3⟩ := hrd3
      have Hrd3 := Lib.hid hrd3
      clear hnv hrd3
      go_upto_region 7 with fail
      refine wp_region_held_drew (S := fun _ => True) (by kernel_rfl) trivial (fun hHeld => ?_)
      rw [show Array.replicate _ false = (#[false, false, false, false, false, false, false, false] : Array Bool) from rfl]
      refine takeH 0 (some 23) (v := ?_) rfl (by kernel_rfl) (by kernel_rfl) (by kernel_rfl) (by kernel_rfl) (fun _ _ _ h => h) (Or.inl ⟨by kernel_rfl, ?hy⟩) (by assumption) ?_
      case hy =>
        intro w' hSw
        clear hSw
        first
          | (go_simp; done)
          | (go_simp; with_reducible rfl)
      simp only [Act.put, List.setIfInBounds_toArray, List.set_cons_zero, List.set_cons_succ]
      refine takeH 1 (some 24) (v := ?_) rfl (by kernel_rfl) (by kernel_rfl) (by kernel_rfl) (by kernel_rfl) (fun _ _ _ h => h) (Or.inl ⟨by kernel_rfl, ?hy⟩) (by assumption) ?_
      case hy =>
        intro w' hSw
        clear hSw
        first
          | (go_simp; done)
          | (go_simp; with_reducible rfl)
      simp only [Act.put, List.setIfInBounds_toArray, List.set_cons_zero, List.set_cons_succ]
      refine takeH 2 (some 25) (v := ?_) rfl (by kernel_rfl) (by kernel_rfl) (by kernel_rfl) (by kernel_rfl) (fun _ _ _ h => h) (Or.inl ⟨by kernel_rfl, ?hy⟩) (by assumption) ?_
      case hy =>
        intro w' hSw
        clear hSw
        first
          | (go_simp; done)
          | (go_simp; with_reducible rfl)
      simp only [Act.put, List.setIfInBounds_toArray, List.set_cons_zero, List.set_cons_succ]
      refine takeH 4 (some 27) (v := ?_) rfl (by kernel_rfl) (by kernel_rfl) (by kernel_rfl) (by kernel_rfl) (fun _ _ _ h => h) (Or.inl ⟨by kernel_rfl, ?hy⟩) (by assumption) ?_
      case hy =>
        intro w' hSw
        clear hSw
        first
          | (go_simp; done)
          | (go_simp; with_reducible rfl)
      simp only [Act.put, List.setIfInBounds_toArray, List.set_cons_zero, List.set_cons_succ]
      refine takeH 5 (some 28) (v := ?_) rfl (by kernel_rfl) (by kernel_rfl) (by kernel_rfl) (by kernel_rfl) (fun _ _ _ h => h) (Or.inl ⟨by kernel_rfl, ?hy⟩) (by assumption) ?_
      case hy =>
        intro w' hSw
        clear hSw
        first
          | (go_simp; done)
          | (go_simp; with_reducible rfl)
      simp only [Act.put, List.setIfInBounds_toArray, List.set_cons_zero, List.set_cons_succ]
      refine wpAnyH_ready (rs := [3]) (by kernel_rfl) (by simp) ?_
      refine AllReadyH.cons rfl (fun K hK => ?_) AllReadyH.nil
      rw [if_pos (by kernel_rfl)]
      go_simp
      refine (sdclone_any L3 A3 n3 n3 wr.drew (Hrd3.out.drew) hn3).mono ?_
      rintro e w5 ⟨A5, c5, rfl, _, hb5⟩
      have hq5 := (Below.refl wr.heap.size wr).drew.trans hb5
      have HB5 := Lib.hid (block_below HB.out hq5 (block_lt HB.out)); have Hw5 := Lib.hid (Hw.out.trans (hq5.mono Hw.out.size))
      clear hb5 hq5
      refine hK.out _ _ trivial (fun _ => ?_)
      clear hK K
      simp only [List.setIfInBounds_toArray, List.set_cons_zero, List.set_cons_succ]
      refine takeH 6 (some 29) (v := ?_) rfl (by kernel_rfl) (by kernel_rfl) (by kernel_rfl) (by kernel_rfl) (fun _ _ _ h => h) (Or.inl ⟨by kernel_rfl, ?hy⟩) (by assumption) ?_
      case hy =>
        intro w' hSw
        clear hSw
        first
          | (go_simp; done)
          | (go_simp; with_reducible rfl)
      simp only [Act.put, List.setIfInBounds_toArray, List.set_cons_zero, List.set_cons_succ]
      obtain ⟨x, hx⟩ : ∃ x, cs[1 + k]? = some x := ⟨_, Array.getElem?_eq_getElem (by have := Hcs.out; omega)⟩
      have cx5 : w5.cell? ⟨bo, 1 + k, none⟩ = some x := (block_cell HB5.out (1 + k)).trans hx
      have f5 := block_free HB5.out
      have h6 := Joins.block_setCell (i := 1 + k) HB5.out (.slice A5 n3 c5)
      have g6 := grown_set1 w5 bo (1 + k) (.slice A5 n3 c5)
      have hbo5 := block_lt HB5.out
      have Hz6 := Lib.hid (show (cs.setIfInBounds (1 + k) (.slice A5 n3 c5)).size = 14 by rw [Array.size_setIfInBounds]; exact Hcs.out)
      have HB6 := Lib.hid h6
      have Hw6 := Lib.hid (Hw5.out.grown g6 Hw5.out.size (fun q hq => by injection hq with hq; omega))
      clear h6 g6
      refine wpAnyH_ready (rs := [7]) (by kernel_rfl) (by simp) ?_
      refine AllReadyH.cons rfl (fun K hK => ?_) AllReadyH.nil
      rw [if_pos (by kernel_rfl)]
      go_simp
      generalize w5.setCell ⟨bo, 1 + k, none⟩ (.slice A5 n3 c5) = w6 at *
      refine hK.out _ _ trivial (fun _ => ?_)
      clear hK K
      simp only [List.setIfInBounds_toArray, List.set_cons_zero, List.set_cons_succ]
      refine wpAnyH_done (by kernel_rfl) ?_ _
      go_wp2
      go_roundw
      case rel => exact ⟨k + 1, _, Hk.out, by go_num, HB6.out, Hz6.out, Hw6.out⟩
      case measure => have := Hk.out; simp [RowKit.intOf]; omega
    · obtain rfl : k = 13 := by omega
      have hd1 : decide (((13 : Nat) : Int) < 13) = false := by decide
      clear hlt hk
      go_wp2
      go_ret
      exact ⟨bo, rfl, Hw.out⟩
end Go.Proofs.YtmpklplojfjfbaaDoor
