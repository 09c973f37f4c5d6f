/- The walk of told (layer 47): the chapter's example. Condition: none. -/
import Derived.Test.YthjpaclcoipocaaPuO
import Derived.Test.YthjpaclcoipocaaPuG
namespace Go.Proofs.Ythjpaclcoipocaa
open Go.RowKit Go.Lib

theorem isAgg_int : ∀ w, (isAgg 3).run Try.prog w = .ok false w := fun w => by kernel_rfl
theorem info_intsome : ∃ i, Try.prog.info? 3 = some i := info_of_underlying Try.underlying3
theorem cells_int : Try.prog.cellsOf 3 = 1 := by kernel_rfl
theorem eql_two (x0 x1 y0 y1 : Int) (w : World) : (binOp .eql 23 (.agg #[.int .i64 x0, .int .i64 x1]) (.agg #[.int .i64 y0, .int .i64 y1])).run Try.prog w = .ok (.bool (eqI [x0, x1] [y0, y1])) w := by
  obtain ⟨i, hi⟩ := info_intsome
  rw [run_eql_struct, show (10000 : Nat) = 9998 + 2 from rfl]
  have := eqArr Try.underlying23 hi cells_int isAgg_int Try.underlying3 [x0, x1] [y0, y1] rfl rfl 9998 w
  simp only [List.map_cons, List.map_nil] at this
  rw [this]; rfl
def dg (x : Nat) : D8 := ⟨x, 0, 0, 0, 0, 0, 0, 0⟩
def GivesAt (q : Pu) (k : Int) (w : World) (e : Ending) (w' : World) : Prop :=
  ∃ A n c, e = .returned (.tuple #[.agg #[.int .u8 (q.nm.x0 : Int), .int .u8 (q.nm.x1 : Int), .int .u8 (q.nm.x2 : Int), .int .u8 (q.nm.x3 : Int), .int .u8 (q.nm.x4 : Int), .int .u8 (q.nm.x5 : Int), .int .u8 (q.nm.x6 : Int), .int .u8 (q.nm.x7 : Int), .int .i64 q.no, .int .i64 q.h0, .int .i64 q.h1, .slice A n c], .int .i64 k]) ∧ PuV.At q A n c w' ∧ Below w.heap.size w w'
theorem givesAt {r : Int × Pu} {q : Pu} {k : Int} {w : World} {e : Ending} {w' : World} (h : GivesCh r w e w') (hr : r = (k, q)) (hl : q.held.length ≤ 1000000) : GivesAt q k w e w' := by
  subst hr
  obtain ⟨A, n, c, he, ho, hb⟩ := h
  simp only at he ho
  have hn : q.held.length = n := by have := ho.1; rw [flatH_len] at this; omega
  have hs : n ≤ 1000000 := by omega
  refine ⟨A, n, c, he, ⟨Rd.of_own ho, ?_, hs⟩, hb⟩
  rcases ho.2 with ⟨hv, hn⟩ | ⟨_, cap, _, hv, _, _, hn, _⟩
  · omega
  · injection hv with _ _ h3; omega
theorem pnew_at (d : D8) (a b : Int) (w : World) (h : (Pu.new d a b).check = 0) :
    Calls Try.prog 13 #[.agg #[.int .u8 (d.x0 : Int), .int .u8 (d.x1 : Int), .int .u8 (d.x2 : Int), .int .u8 (d.x3 : Int), .int .u8 (d.x4 : Int), .int .u8 (d.x5 : Int), .int .u8 (d.x6 : Int), .int .u8 (d.x7 : Int)], .int .i64 a, .int .i64 b] w fun e w' => e = .returned (.tuple #[.agg #[.int .u8 (d.x0 : Int), .int .u8 (d.x1 : Int), .int .u8 (d.x2 : Int), .int .u8 (d.x3 : Int), .int .u8 (d.x4 : Int), .int .u8 (d.x5 : Int), .int .u8 (d.x6 : Int), .int .u8 (d.x7 : Int), .int .i64 0, .int .i64 a, .int .i64 b, .slice none 0 0], .int .i64 0]) ∧ Below w.heap.size w w' :=
  (pnew_any d a b w).mono fun e w' ⟨he, hb⟩ => ⟨by rw [he, if_pos h], hb⟩
def pA : Pu := ⟨dg 1, 0, 10, 5, []⟩
def qA : Pu := ⟨dg 1, 1, 6, 5, [⟨dg 2, 4, 0, 20⟩]⟩
def rA : Pu := ⟨dg 1, 2, 7, 8, []⟩
def sA : Pu := ⟨dg 1, 2, 10, 5, []⟩
set_option maxRecDepth 100000 in
set_option maxHeartbeats 2000000 in
theorem told_any (w : World) : Calls Try.prog 5 #[] w fun e w' => e = .returned (.bool true) ∧ Below w.heap.size w w' := by
  have E1 : Hid (pA.hold ⟨dg 2, 4, 0, 20⟩ = (0, qA)) := by show _ = _; kernel_rfl
  have E2 : Hid (qA.free (dg 2) 3 = (0, rA)) := by show _ = _; kernel_rfl
  have E3 : Hid (qA.back (dg 2) 20 = (20, pu0)) := by show _ = _; kernel_rfl
  have E4 : Hid (qA.back (dg 2) 21 = (0, sA)) := by show _ = _; kernel_rfl
  have E5 : Hid ((Pu.new (dg 1) 10 5).check = 0) := by show _ = _; kernel_rfl
  have e6 : rA.total = 15 := by kernel_rfl
  have f1 : eqI [qA.h0, qA.h1] [6, 5] = true := by kernel_rfl
  have f2 : eqI [rA.h0, rA.h1] [7, 8] = true := by kernel_rfl
  have f3 : eqI [sA.h0, sA.h1] [10, 5] = true := by kernel_rfl
  have f4 : (rA.no == 2) = true := by kernel_rfl
  have heq := eql_two
  go_enter Try.func5, Try.ntmps5
  go_wp2_with fail
  refine (pnew_at (dg 1) 10 5 _ E5.out).mono ?_
  rintro e w1 ⟨rfl, hb1⟩
  have Hb1 := Lib.hid (hb1.alloc hb1.size (.cells #[.int .u8 ((dg 1).x0 : Int), .int .u8 ((dg 1).x1 : Int), .int .u8 ((dg 1).x2 : Int), .int .u8 ((dg 1).x3 : Int), .int .u8 ((dg 1).x4 : Int), .int .u8 ((dg 1).x5 : Int), .int .u8 ((dg 1).x6 : Int), .int .u8 ((dg 1).x7 : Int), .int .i64 0, .int .i64 10, .int .i64 5, .slice none 0 0] 35))
  clear hb1
  go_wp2_with fail
  refine ((hold_any pA none 0 0 ⟨dg 2, 4, 0, 20⟩ _ ⟨by simpa [flatH, pA] using Rd.empty, by omega, by omega⟩).mono fun _ _ h => givesAt h E1.out (by decide)).mono ?_
  rintro e w2 ⟨A2, n2, c2, rfl, ha2, hb2⟩
  have HA2 := Lib.hid (ha2.up (below_one w2 (.cells #[.int .u8 (qA.nm.x0 : Int), .int .u8 (qA.nm.x1 : Int), .int .u8 (qA.nm.x2 : Int), .int .u8 (qA.nm.x3 : Int), .int .u8 (qA.nm.x4 : Int), .int .u8 (qA.nm.x5 : Int), .int .u8 (qA.nm.x6 : Int), .int .u8 (qA.nm.x7 : Int), .int .i64 qA.no, .int .i64 qA.h0, .int .i64 qA.h1, .slice A2 n2 c2] 35)))
  have HX2 := Lib.hid (heap_alloc_new w2 (.cells #[.int .u8 (qA.nm.x0 : Int), .int .u8 (qA.nm.x1 : Int), .int .u8 (qA.nm.x2 : Int), .int .u8 (qA.nm.x3 : Int), .int .u8 (qA.nm.x4 : Int), .int .u8 (qA.nm.x5 : Int), .int .u8 (qA.nm.x6 : Int), .int .u8 (qA.nm.x7 : Int), .int .i64 qA.no, .int .i64 qA.h0, .int .i64 qA.h1, .slice A2 n2 c2] 35))
  have Hb2 := Lib.hid ((Hb1.out.trans (hb2.mono Hb1.out.size)).alloc (Nat.le_trans Hb1.out.size hb2.size) (.cells #[.int .u8 (qA.nm.x0 : Int), .int .u8 (qA.nm.x1 : Int), .int .u8 (qA.nm.x2 : Int), .int .u8 (qA.nm.x3 : Int), .int .u8 (qA.nm.x4 : Int), .int .u8 (qA.nm.x5 : Int), .int .u8 (qA.nm.x6 : Int), .int .u8 (qA.nm.x7 : Int), .int .i64 qA.no, .int .i64 qA.h0, .int .i64 qA.h1, .slice A2 n2 c2] 35))
  clear ha2 hb2
  go_wp2_with fail
  generalize (w2.alloc (.cells #[.int .u8 (qA.nm.x0 : Int), .int .u8 (qA.nm.x1 : Int), .int .u8 (qA.nm.x2 : Int), .int .u8 (qA.nm.x3 : Int), .int .u8 (qA.nm.x4 : Int), .int .u8 (qA.nm.x5 : Int), .int .u8 (qA.nm.x6 : Int), .int .u8 (qA.nm.x7 : Int), .int .i64 qA.no, .int .i64 qA.h0, .int .i64 qA.h1, .slice A2 n2 c2] 35)) = w2' at *
  refine ((free_any qA A2 n2 c2 (dg 2) 3 w2' HA2.out).mono fun _ _ h => givesAt h E2.out (by decide)).mono ?_
  rintro e w3 ⟨A3, n3, c3, rfl, ha3, hb3⟩
  have HA23 := Lib.hid ((HA2.out.up hb3).up (below_one w3 (.cells #[.int .u8 (rA.nm.x0 : Int), .int .u8 (rA.nm.x1 : Int), .int .u8 (rA.nm.x2 : Int), .int .u8 (rA.nm.x3 : Int), .int .u8 (rA.nm.x4 : Int), .int .u8 (rA.nm.x5 : Int), .int .u8 (rA.nm.x6 : Int), .int .u8 (rA.nm.x7 : Int), .int .i64 rA.no, .int .i64 rA.h0, .int .i64 rA.h1, .slice A3 n3 c3] 35)))
  have hl2 := block_lt HX2.out
  have HX23 := Lib.hid (block_alloc (block_below HX2.out hb3 hl2) (.cells #[.int .u8 (rA.nm.x0 : Int), .int .u8 (rA.nm.x1 : Int), .int .u8 (rA.nm.x2 : Int), .int .u8 (rA.nm.x3 : Int), .int .u8 (rA.nm.x4 : Int), .int .u8 (rA.nm.x5 : Int), .int .u8 (rA.nm.x6 : Int), .int .u8 (rA.nm.x7 : Int), .int .i64 rA.no, .int .i64 rA.h0, .int .i64 rA.h1, .slice A3 n3 c3] 35))
  have HA3 := Lib.hid (ha3.up (below_one w3 (.cells #[.int .u8 (rA.nm.x0 : Int), .int .u8 (rA.nm.x1 : Int), .int .u8 (rA.nm.x2 : Int), .int .u8 (rA.nm.x3 : Int), .int .u8 (rA.nm.x4 : Int), .int .u8 (rA.nm.x5 : Int), .int .u8 (rA.nm.x6 : Int), .int .u8 (rA.nm.x7 : Int), .int .i64 rA.no, .int .i64 rA.h0, .int .i64 rA.h1, .slice A3 n3 c3] 35)))
  have HX3 := Lib.hid (heap_alloc_new w3 (.cells #[.int .u8 (rA.nm.x0 : Int), .int .u8 (rA.nm.x1 : Int), .int .u8 (rA.nm.x2 : Int), .int .u8 (rA.nm.x3 : Int), .int .u8 (rA.nm.x4 : Int), .int .u8 (rA.nm.x5 : Int), .int .u8 (rA.nm.x6 : Int), .int .u8 (rA.nm.x7 : Int), .int .i64 rA.no, .int .i64 rA.h0, .int .i64 rA.h1, .slice A3 n3 c3] 35))
  have Hb3 := Lib.hid ((Hb2.out.trans (hb3.mono Hb2.out.size)).alloc (Nat.le_trans Hb2.out.size hb3.size) (.cells #[.int .u8 (rA.nm.x0 : Int), .int .u8 (rA.nm.x1 : Int), .int .u8 (rA.nm.x2 : Int), .int .u8 (rA.nm.x3 : Int), .int .u8 (rA.nm.x4 : Int), .int .u8 (rA.nm.x5 : Int), .int .u8 (rA.nm.x6 : Int), .int .u8 (rA.nm.x7 : Int), .int .i64 rA.no, .int .i64 rA.h0, .int .i64 rA.h1, .slice A3 n3 c3] 35))
  obtain ⟨z0, z1, z2, z3, z4, z5, z6, z7, z8, z9, z10, z11⟩ := PBox.all HX23.out
  clear ha3 hb3
  go_wp2_with fail
  generalize (w3.alloc (.cells #[.int .u8 (rA.nm.x0 : Int), .int .u8 (rA.nm.x1 : Int), .int .u8 (rA.nm.x2 : Int), .int .u8 (rA.nm.x3 : Int), .int .u8 (rA.nm.x4 : Int), .int .u8 (rA.nm.x5 : Int), .int .u8 (rA.nm.x6 : Int), .int .u8 (rA.nm.x7 : Int), .int .i64 rA.no, .int .i64 rA.h0, .int .i64 rA.h1, .slice A3 n3 c3] 35)) = w3' at *
  refine ((back_any qA A2 n2 c2 (dg 2) 20 w3' HA23.out).mono fun _ _ h => givesAt h E3.out (by decide)).mono ?_
  rintro e w4 ⟨A4, n4, c4, rfl, ha4, hb4⟩
  clear z0 z1 z2 z3 z4 z5 z6 z7 z8 z9 z10 z11
  have hl3 := block_lt HX3.out
  have hl23 := block_lt HX23.out
  have HA24 := Lib.hid ((HA23.out.up hb4).up (below_one w4 (.cells #[.int .u8 (pu0.nm.x0 : Int), .int .u8 (pu0.nm.x1 : Int), .int .u8 (pu0.nm.x2 : Int), .int .u8 (pu0.nm.x3 : Int), .int .u8 (pu0.nm.x4 : Int), .int .u8 (pu0.nm.x5 : Int), .int .u8 (pu0.nm.x6 : Int), .int .u8 (pu0.nm.x7 : Int), .int .i64 pu0.no, .int .i64 pu0.h0, .int .i64 pu0.h1, .slice A4 n4 c4] 35)))
  have HX24 := Lib.hid (block_alloc (block_below HX23.out hb4 hl23) (.cells #[.int .u8 (pu0.nm.x0 : Int), .int .u8 (pu0.nm.x1 : Int), .int .u8 (pu0.nm.x2 : Int), .int .u8 (pu0.nm.x3 : Int), .int .u8 (pu0.nm.x4 : Int), .int .u8 (pu0.nm.x5 : Int), .int .u8 (pu0.nm.x6 : Int), .int .u8 (pu0.nm.x7 : Int), .int .i64 pu0.no, .int .i64 pu0.h0, .int .i64 pu0.h1, .slice A4 n4 c4] 35))
  have HA34 := Lib.hid ((HA3.out.up hb4).up (below_one w4 (.cells #[.int .u8 (pu0.nm.x0 : Int), .int .u8 (pu0.nm.x1 : Int), .int .u8 (pu0.nm.x2 : Int), .int .u8 (pu0.nm.x3 : Int), .int .u8 (pu0.nm.x4 : Int), .int .u8 (pu0.nm.x5 : Int), .int .u8 (pu0.nm.x6 : Int), .int .u8 (pu0.nm.x7 : Int), .int .i64 pu0.no, .int .i64 pu0.h0, .int .i64 pu0.h1, .slice A4 n4 c4] 35)))
  have HX34 := Lib.hid (block_alloc (block_below HX3.out hb4 hl3) (.cells #[.int .u8 (pu0.nm.x0 : Int), .int .u8 (pu0.nm.x1 : Int), .int .u8 (pu0.nm.x2 : Int), .int .u8 (pu0.nm.x3 : Int), .int .u8 (pu0.nm.x4 : Int), .int .u8 (pu0.nm.x5 : Int), .int .u8 (pu0.nm.x6 : Int), .int .u8 (pu0.nm.x7 : Int), .int .i64 pu0.no, .int .i64 pu0.h0, .int .i64 pu0.h1, .slice A4 n4 c4] 35))
  have Hb4 := Lib.hid ((Hb3.out.trans (hb4.mono Hb3.out.size)).alloc (Nat.le_trans Hb3.out.size hb4.size) (.cells #[.int .u8 (pu0.nm.x0 : Int), .int .u8 (pu0.nm.x1 : Int), .int .u8 (pu0.nm.x2 : Int), .int .u8 (pu0.nm.x3 : Int), .int .u8 (pu0.nm.x4 : Int), .int .u8 (pu0.nm.x5 : Int), .int .u8 (pu0.nm.x6 : Int), .int .u8 (pu0.nm.x7 : Int), .int .i64 pu0.no, .int .i64 pu0.h0, .int .i64 pu0.h1, .slice A4 n4 c4] 35))
  obtain ⟨z0, z1, z2, z3, z4, z5, z6, z7, z8, z9, z10, z11⟩ := PBox.all HX24.out
  clear ha4 hb4 hl3 hl23
  go_wp2_with fail
  generalize (w4.alloc (.cells #[.int .u8 (pu0.nm.x0 : Int), .int .u8 (pu0.nm.x1 : Int), .int .u8 (pu0.nm.x2 : Int), .int .u8 (pu0.nm.x3 : Int), .int .u8 (pu0.nm.x4 : Int), .int .u8 (pu0.nm.x5 : Int), .int .u8 (pu0.nm.x6 : Int), .int .u8 (pu0.nm.x7 : Int), .int .i64 pu0.no, .int .i64 pu0.h0, .int .i64 pu0.h1, .slice A4 n4 c4] 35)) = w4' at *
  refine ((back_any qA A2 n2 c2 (dg 2) 21 w4' HA24.out).mono fun _ _ h => givesAt h E4.out (by decide)).mono ?_
  rintro e w5 ⟨A5, n5, c5, rfl, ha5, hb5⟩
  clear z0 z1 z2 z3 z4 z5 z6 z7 z8 z9 z10 z11
  have hl3 := block_lt HX34.out
  have hl23 := block_lt HX24.out
  have HX25 := Lib.hid (block_alloc (block_below HX24.out hb5 hl23) (.cells #[.int .u8 (sA.nm.x0 : Int), .int .u8 (sA.nm.x1 : Int), .int .u8 (sA.nm.x2 : Int), .int .u8 (sA.nm.x3 : Int), .int .u8 (sA.nm.x4 : Int), .int .u8 (sA.nm.x5 : Int), .int .u8 (sA.nm.x6 : Int), .int .u8 (sA.nm.x7 : Int), .int .i64 sA.no, .int .i64 sA.h0, .int .i64 sA.h1, .slice A5 n5 c5] 35))
  have HA35 := Lib.hid ((HA34.out.up hb5).up (below_one w5 (.cells #[.int .u8 (sA.nm.x0 : Int), .int .u8 (sA.nm.x1 : Int), .int .u8 (sA.nm.x2 : Int), .int .u8 (sA.nm.x3 : Int), .int .u8 (sA.nm.x4 : Int), .int .u8 (sA.nm.x5 : Int), .int .u8 (sA.nm.x6 : Int), .int .u8 (sA.nm.x7 : Int), .int .i64 sA.no, .int .i64 sA.h0, .int .i64 sA.h1, .slice A5 n5 c5] 35)))
  have HX35 := Lib.hid (block_alloc (block_below HX34.out hb5 hl3) (.cells #[.int .u8 (sA.nm.x0 : Int), .int .u8 (sA.nm.x1 : Int), .int .u8 (sA.nm.x2 : Int), .int .u8 (sA.nm.x3 : Int), .int .u8 (sA.nm.x4 : Int), .int .u8 (sA.nm.x5 : Int), .int .u8 (sA.nm.x6 : Int), .int .u8 (sA.nm.x7 : Int), .int .i64 sA.no, .int .i64 sA.h0, .int .i64 sA.h1, .slice A5 n5 c5] 35))
  have HX55 := Lib.hid (heap_alloc_new w5 (.cells #[.int .u8 (sA.nm.x0 : Int), .int .u8 (sA.nm.x1 : Int), .int .u8 (sA.nm.x2 : Int), .int .u8 (sA.nm.x3 : Int), .int .u8 (sA.nm.x4 : Int), .int .u8 (sA.nm.x5 : Int), .int .u8 (sA.nm.x6 : Int), .int .u8 (sA.nm.x7 : Int), .int .i64 sA.no, .int .i64 sA.h0, .int .i64 sA.h1, .slice A5 n5 c5] 35))
  have Hb5 := Lib.hid ((Hb4.out.trans (hb5.mono Hb4.out.size)).alloc (Nat.le_trans Hb4.out.size hb5.size) (.cells #[.int .u8 (sA.nm.x0 : Int), .int .u8 (sA.nm.x1 : Int), .int .u8 (sA.nm.x2 : Int), .int .u8 (sA.nm.x3 : Int), .int .u8 (sA.nm.x4 : Int), .int .u8 (sA.nm.x5 : Int), .int .u8 (sA.nm.x6 : Int), .int .u8 (sA.nm.x7 : Int), .int .i64 sA.no, .int .i64 sA.h0, .int .i64 sA.h1, .slice A5 n5 c5] 35))
  obtain ⟨z0, z1, z2, z3, z4, z5, z6, z7, z8, z9, z10, z11⟩ := PBox.all HX25.out
  obtain ⟨y0, y1, y2, y3, y4, y5, y6, y7, y8, y9, y10, y11⟩ := PBox.all HX35.out
  obtain ⟨x0, x1, x2, x3, x4, x5, x6, x7, x8, x9, x10, x11⟩ := PBox.all HX55.out
  clear ha5 hb5 hl3 hl23
  go_wp2_with fail
  refine (total_any rA A3 n3 c3 _ HA35.out).mono ?_
  rintro e w6 ⟨rfl, hb6⟩
  have Hb6 := Lib.hid (Hb5.out.trans (hb6.mono Hb5.out.size))
  clear hb6
  go_wp2
  go_ret
  exact ⟨rfl, Hb6.out⟩
end Go.Proofs.Ythjpaclcoipocaa
