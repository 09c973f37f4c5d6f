/- That both ways to tell what is read agree; the walk of the known examples. Condition: the table of operations reads as laid. -/
import Derived.Test.YtecolkpnllikaaaDoorCodeF
namespace Go.Proofs.YtecolkpnllikaaaDoor
open Go.RowKit Go.Lib

theorem memB_one (x y : Int) : memB [x] y = decide (y = x) := by simp [memB]
theorem memB_none (y : Int) : memB [] y = false := by simp [memB]
theorem hasOf_size_at (k : Nat) (h : k < 22) : (hasOf (k : Int)).size = (hasL.getD k []).length := by
  rw [hasOf, hasB, isB_yes (by omega) (by omega)]; simp [ByteArray.size]
theorem reads_same (op a b c : Int) : rdC op a b c (hasOf op).size = rdR op a b c := by
  by_cases h : 0 ≤ op ∧ op < 22
  · obtain ⟨h0, h1⟩ := h
    obtain ⟨k, rfl⟩ := Int.eq_ofNat_of_zero_le h0
    have hk : k < 22 := by omega
    rw [hasOf_size_at k hk]
    clear h0 h1
    (rcases (by omega : k = 0 ∨ k = 1 ∨ k = 2 ∨ k = 3 ∨ k = 4 ∨ k = 5 ∨ k = 6 ∨ k = 7 ∨ k = 8 ∨ k = 9 ∨ k = 10 ∨ k = 11 ∨ k = 12 ∨ k = 13 ∨ k = 14 ∨ k = 15 ∨ k = 16 ∨ k = 17 ∨ k = 18 ∨ k = 19 ∨ k = 20 ∨ k = 21) with rfl | rfl | rfl | rfl | rfl | rfl | rfl | rfl | rfl | rfl | rfl | rfl | rfl | rfl | rfl | rfl | rfl | rfl | rfl | rfl | rfl | rfl) <;>
      (simp [hasL, rdC, rdR, whichL, skipB, chr, hasB, isB, three, memB]; try (split <;> simp_all <;> omega))
  · have hb := isB_no (by omega : op < 0 ∨ 22 ≤ op)
    have hw : whichL op = [] := by
      unfold whichL; rw [if_neg (by omega), if_neg (by omega), if_neg (by omega), if_neg (by omega)]
    rw [hasOf_no hb]
    simp [rdR, hw, ByteArray.size, rdC]
theorem sameB_self (l : List Int) : sameB l l = true := by simp [sameB]
theorem rdC_le3 (op a b c : Int) : (rdC op a b c (hasOf op).size).length ≤ 3 := Nat.le_trans (rdC_len _ _ _ _ _) (hasOf_size op)
theorem known_reads1 : rdC 3 3 1 2 (hasOf 3).size = [1, 2] := by decide
theorem known_reads2 : rdC 16 5 1 2 (hasOf 16).size = [1, 2] := by decide
theorem known_wr1 : writesI 3 3 = 3 := by decide
theorem known_wr2 : writesI 16 5 = -1 := by decide
theorem known_name : nameOf 21 = ⟨#[106, 110, 122]⟩ := by decide

/-- What the walk of the examples keeps: the two instructions, the table, and what was there. -/
structure KnownInv (w w' : World) : Prop where
  add : w'.heap[w.heap.size]? = some (.cells #[.int .i64 3, .int .i64 3, .int .i64 1, .int .i64 2] 24)
  sto : w'.heap[w.heap.size + 1]? = some (.cells #[.int .i64 16, .int .i64 5, .int .i64 1, .int .i64 2] 24)
  tab : OpTab w'
  bel : Below w.heap.size w w'
theorem KnownInv.below {w w' w'' : World} (h : KnownInv w w') (hb : Below w'.heap.size w' w'') : KnownInv w w'' :=
  ⟨block_below h.add hb (block_lt h.add), block_below h.sto hb (block_lt h.sto), h.tab.below hb h.tab.1, h.bel.trans (hb.mono h.bel.size)⟩
theorem KnownInv.alloc {w w' : World} (h : KnownInv w w') (o : Obj) : KnownInv w (w'.alloc o) := h.below ((Below.refl _ _).alloc (Nat.le_refl _) o)
theorem KnownInv.start {w : World} (hT : OpTab w) : KnownInv w ((w.alloc (.cells #[.int .i64 3, .int .i64 3, .int .i64 1, .int .i64 2] 24)).alloc (.cells #[.int .i64 16, .int .i64 5, .int .i64 1, .int .i64 2] 24)) :=
  ⟨block_alloc (heap_alloc_new w _) _, by have := heap_alloc_new (w.alloc (.cells #[.int .i64 3, .int .i64 3, .int .i64 1, .int .i64 2] 24)) (.cells #[.int .i64 16, .int .i64 5, .int .i64 1, .int .i64 2] 24); simpa using this, (hT.alloc _).alloc _, ((Below.refl _ _).alloc (Nat.le_refl _) _).alloc (by simp) _⟩
theorem KnownInv.cells {w w' : World} (h : KnownInv w w') :
    (w'.cell? ⟨w.heap.size, 0, none⟩ = some (.int .i64 3) ∧ w'.cell? ⟨w.heap.size, 1, none⟩ = some (.int .i64 3) ∧ w'.cell? ⟨w.heap.size, 2, none⟩ = some (.int .i64 1) ∧ w'.cell? ⟨w.heap.size, 3, none⟩ = some (.int .i64 2)) ∧
    (w'.cell? ⟨w.heap.size + 1, 0, none⟩ = some (.int .i64 16) ∧ w'.cell? ⟨w.heap.size + 1, 1, none⟩ = some (.int .i64 5) ∧ w'.cell? ⟨w.heap.size + 1, 2, none⟩ = some (.int .i64 1) ∧ w'.cell? ⟨w.heap.size + 1, 3, none⟩ = some (.int .i64 2)) :=
  ⟨⟨block_cell h.add 0, block_cell h.add 1, block_cell h.add 2, block_cell h.add 3⟩, ⟨block_cell h.sto 0, block_cell h.sto 1, block_cell h.sto 2, block_cell h.sto 3⟩⟩

set_option maxRecDepth 100000 in
set_option maxHeartbeats 1000000 in
theorem known_any (w : World) (hT : OpTab w) : Calls Tryd.prog 10 #[] w fun e w' => e = .returned (.bool true) ∧ Below w.heap.size w w' := by
  have HI0 := Lib.hid (KnownInv.start hT); clear hT
  go_enter Tryd.func10, Tryd.ntmps10
  go_wp2_with fail
  refine (reads_any _ _ _ _ _ HI0.out.tab).mono ?_
  rintro e w1 ⟨A1, n1, c1, rfl, hr1, hn1, hb1⟩
  have HI1 := Lib.hid (HI0.out.below hb1)
  rw [known_reads1] at hr1 hn1
  obtain rfl : n1 = 2 := hn1
  have Hr1 := Lib.hid (hr1.alloc (Nat.le_refl _) (.cells #[.int .i64 1, .int .i64 2] 3))
  have Hr1' := Lib.hid (Rd.newA (n := 2) (sz := 1) (xs := ints [1, 2]) w1 3 #[.int .i64 1, .int .i64 2] rfl rfl)
  have c1 := HI1.out.cells
  clear hb1 hr1
  go_wp2_with fail
  refine (ints_any _ _ _ _ _ _ [1, 2] [1, 2] _ (Hr1.out.more (by simp)) Hr1'.out (by decide) (by decide)).mono ?_
  rintro e w2 ⟨rfl, hb2⟩
  rw [sameB_self]
  have HI2 := Lib.hid ((HI1.out.alloc _).below hb2)
  have c2 := HI2.out.cells
  clear c1 hb2
  go_wp2_with fail
  refine (writes_any _ _ _ _ _ HI2.out.tab).mono ?_
  rintro e w3 ⟨rfl, hb3⟩
  rw [known_wr1]
  have HI3 := Lib.hid (HI2.out.below hb3)
  have c3 := HI3.out.cells
  clear c2 hb3
  go_wp2_with fail
  refine (reads_any _ _ _ _ _ HI3.out.tab).mono ?_
  rintro e w4 ⟨A4, n4, q4, rfl, hr4, hn4, hb4⟩
  have HI4 := Lib.hid (HI3.out.below hb4)
  rw [known_reads2] at hr4 hn4
  obtain rfl : n4 = 2 := hn4
  have Hr4 := Lib.hid (hr4.alloc (Nat.le_refl _) (.cells #[.int .i64 1, .int .i64 2] 3))
  have Hr4' := Lib.hid (Rd.newA (n := 2) (sz := 1) (xs := ints [1, 2]) w4 3 #[.int .i64 1, .int .i64 2] rfl rfl)
  have c4 := HI4.out.cells
  clear hb4 hr4 c3
  go_wp2_with fail
  refine (ints_any _ _ _ _ _ _ [1, 2] [1, 2] _ (Hr4.out.more (by simp)) Hr4'.out (by decide) (by decide)).mono ?_
  rintro e w5 ⟨rfl, hb5⟩
  rw [sameB_self]
  have HI5 := Lib.hid ((HI4.out.alloc _).below hb5)
  have c5 := HI5.out.cells
  clear c4 hb5
  go_wp2_with fail
  refine (writes_any _ _ _ _ _ HI5.out.tab).mono ?_
  rintro e w6 ⟨rfl, hb6⟩
  rw [known_wr2]
  have HI6 := Lib.hid (HI5.out.below hb6)
  clear c5 hb6
  go_wp2_with fail
  refine (word_any _ _ HI6.out.tab).mono ?_
  rintro e w7 ⟨rfl, rfl⟩
  rw [known_name]
  go_wp2
  go_ret
  exact ⟨rfl, HI6.out.bel⟩
end Go.Proofs.YtecolkpnllikaaaDoor
