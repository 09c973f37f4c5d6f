/- The walk of the statement CodeWays: what any instruction reads and writes, where it goes on, and names, are as the document says. Condition: the table of operations reads as laid. -/
import Derived.Test.YtecolkpnllikaaaDoorCodeG
namespace Go.Proofs.YtecolkpnllikaaaDoor
open Go.RowKit Go.Lib

structure WInv (op a b c : Int) (w w' : World) : Prop where
  one : w'.heap[w.heap.size]? = some (.cells #[.int .i64 op, .int .i64 a, .int .i64 b, .int .i64 c] 23)
  two : w'.heap[w.heap.size + 1]? = some (.cells #[.int .i64 op, .int .i64 a, .int .i64 b, .int .i64 c] 24)
  tab : OpTab w'
  bel : Below w.heap.size w w'
section
variable {op a b c : Int} {w w' w'' : World}
theorem WInv.below (h : WInv op a b c w w') (hb : Below w'.heap.size w' w'') : WInv op a b c w w'' :=
  ⟨block_below h.one hb (block_lt h.one), block_below h.two hb (block_lt h.two), h.tab.below hb h.tab.1, h.bel.trans (hb.mono h.bel.size)⟩
theorem WInv.drew (h : WInv op a b c w w') : WInv op a b c w w'.drew := ⟨h.one, h.two, h.tab.below (B := w'.heap.size) (Below.refl _ _).drew h.tab.1, h.bel.drew⟩
theorem WInv.start (hT : OpTab w) : WInv op a b c w ((w.alloc (.cells #[.int .i64 op, .int .i64 a, .int .i64 b, .int .i64 c] 23)).alloc (.cells #[.int .i64 op, .int .i64 a, .int .i64 b, .int .i64 c] 24)) :=
  ⟨block_alloc (heap_alloc_new w _) _, by have := heap_alloc_new (w.alloc (.cells #[.int .i64 op, .int .i64 a, .int .i64 b, .int .i64 c] 23)) (.cells #[.int .i64 op, .int .i64 a, .int .i64 b, .int .i64 c] 24); simpa using this, (hT.alloc _).alloc _, ((Below.refl _ _).alloc (Nat.le_refl _) _).alloc (by simp) _⟩
theorem WInv.all (h : WInv op a b c w w') :
    w'.cell? ⟨w.heap.size, 0, none⟩ = some (.int .i64 op) ∧ w'.cell? ⟨w.heap.size, 1, none⟩ = some (.int .i64 a) ∧ w'.cell? ⟨w.heap.size, 2, none⟩ = some (.int .i64 b) ∧ w'.cell? ⟨w.heap.size, 3, none⟩ = some (.int .i64 c) ∧
    w'.cell? ⟨w.heap.size + 1, 0, none⟩ = some (.int .i64 op) ∧ w'.cell? ⟨w.heap.size + 1, 1, none⟩ = some (.int .i64 a) ∧ w'.cell? ⟨w.heap.size + 1, 2, none⟩ = some (.int .i64 b) ∧ w'.cell? ⟨w.heap.size + 1, 3, none⟩ = some (.int .i64 c) ∧ WInv op a b c w w' :=
  ⟨block_cell h.one 0, block_cell h.one 1, block_cell h.one 2, block_cell h.one 3, block_cell h.two 0, block_cell h.two 1, block_cell h.two 2, block_cell h.two 3, h⟩
end

theorem nextL_le (op a at_ : Int) : (nextL op a at_).length ≤ 2 := by unfold nextL; (repeat' split) <;> simp
set_option maxRecDepth 100000 in
set_option maxHeartbeats 4000000 in
theorem ways_any (op a b c at_ p : Int) (w : World) (hT : OpTab w) : Calls Tryd.prog 3 #[.agg #[.int .i64 op, .int .i64 a, .int .i64 b, .int .i64 c], .int .i64 at_, .int .i64 p] w fun e w' => e = .returned (.bool true) ∧ Below w.heap.size w w' := by
  have hW := WInv.start (op := op) (a := a) (b := b) (c := c) hT
  by_cases hat : at_ = 9223372036854775807
  · have hat' : (at_ == 9223372036854775807) = true := by simpa using hat
    have HW := Lib.hid hW
    clear hat hT hW
    go_enter Tryd.func3, Tryd.ntmps3
    go_wp2_with (go_at_call 10; refine (known_any _ HW.out.tab).mono ?_; rintro e w1 ⟨rfl, hb⟩; have HI1 := Lib.hid (HW.out.below hb); clear hb)
    go_ret
    exact ⟨rfl, HI1.out.bel⟩
  have hat' : (at_ == 9223372036854775807) = false := by simpa using hat
  have HW := Lib.hid hW
  clear hat hT hW
  go_enter Tryd.func3, Tryd.ntmps3
  go_wp2_with fail
  go_region_held3 (fun w' => w'.cell? ⟨w.heap.size, 0, none⟩ = some (.int .i64 op) ∧ w'.cell? ⟨w.heap.size, 1, none⟩ = some (.int .i64 a) ∧ w'.cell? ⟨w.heap.size, 2, none⟩ = some (.int .i64 b) ∧ w'.cell? ⟨w.heap.size, 3, none⟩ = some (.int .i64 c) ∧
      w'.cell? ⟨w.heap.size + 1, 0, none⟩ = some (.int .i64 op) ∧ w'.cell? ⟨w.heap.size + 1, 1, none⟩ = some (.int .i64 a) ∧ w'.cell? ⟨w.heap.size + 1, 2, none⟩ = some (.int .i64 b) ∧ w'.cell? ⟨w.heap.size + 1, 3, none⟩ = some (.int .i64 c) ∧ WInv op a b c w w')
    (first | exact HW.out.drew.all | exact HI1.out.all | exact HI2.out.all | exact HI3.out.all | exact HI4.out.all | exact HI5.out.all | exact HI6.out.all | exact HI7.out.all | exact HI8.out.all | exact HI9.out.all | exact HI10.out.all | exact HI11.out.all | go_keep)
    (first
      | (go_at_call 10; refine (known_any _ HW.out.drew.tab).mono ?_; rintro e w1 ⟨rfl, hb⟩; have HI1 := Lib.hid (HW.out.drew.below hb); clear hb)
      | (go_at_call 12; refine (reads_any _ _ _ _ _ HI1.out.tab).mono ?_; rintro e w2 ⟨A2, n2, c2, rfl, hr, hn, hb⟩; have HI2 := Lib.hid (HI1.out.below hb); have Hn2 := Lib.hid hn; have Hr2 := Lib.hid hr; clear hb hn hr)
      | (go_at_call 13; refine (readsr_any _ _ _ _ _).mono ?_; rintro e w3 ⟨A3, n3, c3, rfl, hr, hn, hb⟩; have HI3 := Lib.hid (HI2.out.below hb); have Hn3 := Lib.hid hn; have Hr3 := Lib.hid hr; have Hr2' := Lib.hid ((Hr2.out.below hb (Nat.le_refl _)).more hb.size); clear hb hn hr)
      | (go_at_call_of 11 (Value.slice A2 n2 c2); refine (ints_any _ _ _ _ _ _ _ _ _ Hr2'.out Hr3.out (by rw [Hn2.out]; have := rdC_le3 op a b c; omega) (by rw [Hn3.out, ← reads_same]; have := rdC_le3 op a b c; omega)).mono ?_; rintro e w4 ⟨rfl, hb⟩; rw [reads_same, sameB_self]; have HI4 := Lib.hid (HI3.out.below hb); clear hb)
      | (go_at_call 14; refine (writes_any _ _ _ _ _ HI4.out.tab).mono ?_; rintro e w5 ⟨rfl, hb⟩; have HI5 := Lib.hid (HI4.out.below hb); clear hb)
      | (go_at_call 15; refine (writesr_any _ _ _ _ _).mono ?_; rintro e w6 ⟨rfl, hb⟩; have HI6 := Lib.hid (HI5.out.below hb); clear hb)
      | (go_at_call 16; refine (next_any _ _ _ _ _ _).mono ?_; rintro e w7 ⟨A7, n7, c7, rfl, hr, hn, hb⟩; have HI7 := Lib.hid (HI6.out.below hb); have Hn7 := Lib.hid hn; have Hr7 := Lib.hid hr; clear hb hn hr)
      | (go_at_call 17; refine (nextr_any _ _ _ _ _ _).mono ?_; rintro e w8 ⟨A8, n8, c8, rfl, hr, hn, hb⟩; have HI8 := Lib.hid (HI7.out.below hb); have Hn8 := Lib.hid hn; have Hr8 := Lib.hid hr; have Hr7' := Lib.hid ((Hr7.out.below hb (Nat.le_refl _)).more hb.size); clear hb hn hr)
      | (go_at_call_of 11 (Value.slice A7 n7 c7); refine (ints_any _ _ _ _ _ _ _ _ _ Hr7'.out Hr8.out (by rw [Hn7.out]; have := nextL_le op a at_; omega) (by rw [Hn8.out]; have := nextL_le op a at_; omega)).mono ?_; rintro e w9 ⟨rfl, hb⟩; rw [sameB_self]; have HI9 := Lib.hid (HI8.out.below hb); clear hb)
      | (go_at_call_of 19 (Value.int .i64 p); refine (wordr_any _ _).mono ?_; rintro e w10 ⟨rfl, hb⟩; have HI10 := Lib.hid (HI9.out.below hb); clear hb)
      | (go_at_call_of 18 (Value.int .i64 p); refine (word_any _ _ HI9.out.tab).mono ?_; rintro e w' ⟨rfl, rfl⟩)
      | (go_at_call_of 18 (Value.int .i64 op); refine (word_any _ _ HI10.out.tab).mono ?_; rintro e w' ⟨rfl, rfl⟩)
      | (go_at_call_of 19 (Value.int .i64 op); refine (wordr_any _ _).mono ?_; rintro e w11 ⟨rfl, hb⟩; have HI11 := Lib.hid (HI10.out.below hb); clear hb))
  all_goals (go_wp2; go_ret; exact ⟨rfl, HI11.out.bel⟩)
end Go.Proofs.YtecolkpnllikaaaDoor
