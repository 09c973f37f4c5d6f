/- The walk of the statement CodeRights: whether any instruction may be, and the first one of any list that may not be, is as the document says. Condition: the table of operations reads as laid. -/
import Derived.Test.YtecolkpnllikaaaDoorCodeK
import Derived.Test.YtecolkpnllikaaaDoorCodeG
namespace Go.Proofs.YtecolkpnllikaaaDoor
open Go.RowKit Go.Lib
structure RInv (op a b c : Int) (w w' : World) : Prop where
  one : w'.heap[w.heap.size]? = some (.cells #[.int .i64 op, .int .i64 a, .int .i64 b, .int .i64 c] 23)
  tab : OpTab w'
  bel : Below w.heap.size w w'
section
variable {op a b c : Int} {w w' w'' : World}
theorem RInv.below (h : RInv op a b c w w') (hb : Below w'.heap.size w' w'') : RInv op a b c w w'' :=
  ⟨block_below h.one hb (block_lt h.one), h.tab.below hb h.tab.1, h.bel.trans (hb.mono h.bel.size)⟩
theorem RInv.drew (h : RInv op a b c w w') : RInv op a b c w w'.drew := ⟨h.one, h.tab.below (B := w'.heap.size) (Below.refl _ _).drew h.tab.1, h.bel.drew⟩
theorem RInv.start (hT : OpTab w) : RInv op a b c w (w.alloc (.cells #[.int .i64 op, .int .i64 a, .int .i64 b, .int .i64 c] 23)) := ⟨heap_alloc_new w _, hT.alloc _, (Below.refl _ _).alloc (Nat.le_refl _) _⟩
theorem RInv.all (h : RInv op a b c w w') :
    w'.cell? ⟨w.heap.size, 0, none⟩ = some (.int .i64 op) ∧ w'.cell? ⟨w.heap.size, 1, none⟩ = some (.int .i64 a) ∧ w'.cell? ⟨w.heap.size, 2, none⟩ = some (.int .i64 b) ∧ w'.cell? ⟨w.heap.size, 3, none⟩ = some (.int .i64 c) ∧ RInv op a b c w w' :=
  ⟨block_cell h.one 0, block_cell h.one 1, block_cell h.one 2, block_cell h.one 3, h⟩
end
set_option maxRecDepth 100000 in
set_option maxHeartbeats 2000000 in
theorem rights_any (op a b c size words : Int) (A : Option Addr) (n cp : Nat) (l : List Ins) (w : World) (hT : OpTab w) (hr : Rd w w.heap.size 4 A n (flat l)) (hn : n ≤ 9223372036854775807) :
    Calls Tryd.prog 4 #[.agg #[.int .i64 op, .int .i64 a, .int .i64 b, .int .i64 c], .int .i64 size, .int .i64 words, .slice A n cp] w fun e w' => e = .returned (.bool true) ∧ Below w.heap.size w w' := by
  have HI0 := Lib.hid (RInv.start (op := op) (a := a) (b := b) (c := c) hT)
  have Hr := Lib.hid hr
  clear hT hr
  go_enter Tryd.func4, Tryd.ntmps4
  go_wp2_with fail
  refine (known_any _ HI0.out.tab).mono ?_
  rintro e w1 ⟨rfl, hb1⟩
  have HI1 := Lib.hid (HI0.out.below hb1)
  clear hb1
  by_cases h3 : 300 < n
  · have hd : decide ((300 : Int) < (n : Int)) = true := decide_eq_true (by omega)
    clear h3
    go_wp2_with (go_at_call 10; refine (known_any _ HI1.out.tab).mono ?_; rintro e w2 ⟨rfl, hb2⟩; have HI2 := Lib.hid (HI1.out.below hb2); clear hb2)
    go_ret
    exact ⟨rfl, HI2.out.bel⟩
  have hd : decide ((300 : Int) < (n : Int)) = false := decide_eq_false (by omega)
  have hn3 : n ≤ 300 := by omega
  clear h3
  have Hr1 := Lib.hid ((Hr.out.below HI1.out.bel (Nat.le_refl _)).more HI1.out.bel.size)
  go_wp2_with fail
  refine (of_any _ _ _ l _ Hr1.out (by omega)).mono ?_
  rintro e w2 ⟨A2, n2, c2, rfl, hr2, hn2, hb2⟩
  have HI2 := Lib.hid (HI1.out.below hb2)
  have Hl : Hid (n = l.length) := by show n = l.length; have := Hr.out.1; rw [flat_len] at this; omega
  have Hr2 := Lib.hid hr2
  have hn2' : n2 ≤ 300 := by rw [hn2, ← Hl.out]; exact hn3
  clear hb2 hr2 hn2
  go_wp2_with fail
  refine (check_any _ _ _ l _ _ HI2.out.tab Hr2.out (by omega)).mono ?_
  rintro e w3 ⟨rfl, hb3⟩
  have HI3 := Lib.hid (HI2.out.below hb3)
  clear hb3
  have Hr3 := Lib.hid ((Hr.out.below HI3.out.bel (Nat.le_refl _)).more HI3.out.bel.size)
  go_wp2_with fail
  refine (checkr_any _ _ _ l _ _ Hr3.out (by omega)).mono ?_
  rintro e w4 ⟨rfl, hb4⟩
  have HI4 := Lib.hid (HI3.out.below hb4)
  clear hb4
  go_wp2_with fail
  go_region_held3 (fun w' => w'.cell? ⟨w.heap.size, 0, none⟩ = some (.int .i64 op) ∧ w'.cell? ⟨w.heap.size, 1, none⟩ = some (.int .i64 a) ∧ w'.cell? ⟨w.heap.size, 2, none⟩ = some (.int .i64 b) ∧ w'.cell? ⟨w.heap.size, 3, none⟩ = some (.int .i64 c) ∧ RInv op a b c w w')
    (first | exact HI4.out.drew.all | exact HI5.out.all | exact HI6.out.all | go_keep)
    (first
      | (go_at_call 23; refine (right_any _ _ _ _ _ _ _ HI4.out.drew.tab).mono ?_; rintro e w5 ⟨rfl, hb⟩; have HI5 := Lib.hid (HI4.out.drew.below hb); clear hb)
      | (go_at_call 24; refine (rightr_any _ _ _ _ _ _ _).mono ?_; rintro e w6 ⟨rfl, hb⟩; have HI6 := Lib.hid (HI5.out.below hb); clear hb))
  all_goals (go_wp2; go_ret; exact ⟨rfl, HI6.out.bel⟩)
end Go.Proofs.YtecolkpnllikaaaDoor
