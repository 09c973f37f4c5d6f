/- The walk of New of a purse. Condition: none. -/
import Derived.Test.YthhiookcknnmdaaGreatPuC
import Derived.Test.YthhiookcknnmdaaGreatPuF
namespace Go.Proofs.YthhiookcknnmdaaGreat
open Go.RowKit Go.Lib

def Pu.new (d : D8) (a b : Int) : Pu := ⟨d, 0, a, b, []⟩
set_option maxRecDepth 100000 in
set_option maxHeartbeats 2000000 in
theorem pnew_any (d : D8) (a b : Int) (w : World) :
  Calls Tryz.prog 60 #[.agg #[.int .u8 d.x0, .int .u8 d.x1, .int .u8 d.x2, .int .u8 d.x3, .int .u8 d.x4, .int .u8 d.x5, .int .u8 d.x6, .int .u8 d.x7], .int .i64 a, .int .i64 b] w fun e w' => e = .returned (if (Pu.new d a b).check = 0 then .tuple #[.agg #[.int .u8 d.x0, .int .u8 d.x1, .int .u8 d.x2, .int .u8 d.x3, .int .u8 d.x4, .int .u8 d.x5, .int .u8 d.x6, .int .u8 d.x7, .int .i64 0, .int .i64 a, .int .i64 b, .slice none 0 0], .int .i64 0] else .tuple #[.agg #[.int .u8 0, .int .u8 0, .int .u8 0, .int .u8 0, .int .u8 0, .int .u8 0, .int .u8 0, .int .u8 0, .int .i64 0, .int .i64 0, .int .i64 0, .slice none 0 0], .int .i64 2]) ∧ Below w.heap.size w w' := by
 have HT1 : Hid ((((w.alloc (.cells #[.int .u8 d.x0, .int .u8 d.x1, .int .u8 d.x2, .int .u8 d.x3, .int .u8 d.x4, .int .u8 d.x5, .int .u8 d.x6, .int .u8 d.x7] 27)).alloc (.cells #[.int .u8 0, .int .u8 0, .int .u8 0, .int .u8 0, .int .u8 0, .int .u8 0, .int .u8 0, .int .u8 0, .int .i64 0, .int .i64 0, .int .i64 0, .slice none 0 0] 85)).alloc (.cells #[.int .u8 d.x0, .int .u8 d.x1, .int .u8 d.x2, .int .u8 d.x3, .int .u8 d.x4, .int .u8 d.x5, .int .u8 d.x6, .int .u8 d.x7, .int .i64 0, .int .i64 a, .int .i64 b, .slice none 0 0] 85)).heap[w.heap.size + 1]? = some (.cells #[.int .u8 0, .int .u8 0, .int .u8 0, .int .u8 0, .int .u8 0, .int .u8 0, .int .u8 0, .int .u8 0, .int .i64 0, .int .i64 0, .int .i64 0, .slice none 0 0] 85 (0, 0))) := block_alloc (alloc_at (by simp)) _
 have HT2 : Hid ((((w.alloc (.cells #[.int .u8 d.x0, .int .u8 d.x1, .int .u8 d.x2, .int .u8 d.x3, .int .u8 d.x4, .int .u8 d.x5, .int .u8 d.x6, .int .u8 d.x7] 27)).alloc (.cells #[.int .u8 0, .int .u8 0, .int .u8 0, .int .u8 0, .int .u8 0, .int .u8 0, .int .u8 0, .int .u8 0, .int .i64 0, .int .i64 0, .int .i64 0, .slice none 0 0] 85)).alloc (.cells #[.int .u8 d.x0, .int .u8 d.x1, .int .u8 d.x2, .int .u8 d.x3, .int .u8 d.x4, .int .u8 d.x5, .int .u8 d.x6, .int .u8 d.x7, .int .i64 0, .int .i64 a, .int .i64 b, .slice none 0 0] 85)).heap[w.heap.size + 2]? = some (.cells #[.int .u8 d.x0, .int .u8 d.x1, .int .u8 d.x2, .int .u8 d.x3, .int .u8 d.x4, .int .u8 d.x5, .int .u8 d.x6, .int .u8 d.x7, .int .i64 0, .int .i64 a, .int .i64 b, .slice none 0 0] 85 (0, 0))) := alloc_at (by simp)
 have Hw : Hid (Below w.heap.size w (((w.alloc (.cells #[.int .u8 d.x0, .int .u8 d.x1, .int .u8 d.x2, .int .u8 d.x3, .int .u8 d.x4, .int .u8 d.x5, .int .u8 d.x6, .int .u8 d.x7] 27)).alloc (.cells #[.int .u8 0, .int .u8 0, .int .u8 0, .int .u8 0, .int .u8 0, .int .u8 0, .int .u8 0, .int .u8 0, .int .i64 0, .int .i64 0, .int .i64 0, .slice none 0 0] 85)).alloc (.cells #[.int .u8 d.x0, .int .u8 d.x1, .int .u8 d.x2, .int .u8 d.x3, .int .u8 d.x4, .int .u8 d.x5, .int .u8 d.x6, .int .u8 d.x7, .int .i64 0, .int .i64 a, .int .i64 b, .slice none 0 0] 85))) := (below_two w _ _).alloc (by simp; omega) _
 have Hz : Hid ((((w.alloc (.cells #[.int .u8 d.x0, .int .u8 d.x1, .int .u8 d.x2, .int .u8 d.x3, .int .u8 d.x4, .int .u8 d.x5, .int .u8 d.x6, .int .u8 d.x7] 27)).alloc (.cells #[.int .u8 0, .int .u8 0, .int .u8 0, .int .u8 0, .int .u8 0, .int .u8 0, .int .u8 0, .int .u8 0, .int .i64 0, .int .i64 0, .int .i64 0, .slice none 0 0] 85)).alloc (.cells #[.int .u8 d.x0, .int .u8 d.x1, .int .u8 d.x2, .int .u8 d.x3, .int .u8 d.x4, .int .u8 d.x5, .int .u8 d.x6, .int .u8 d.x7, .int .i64 0, .int .i64 a, .int .i64 b, .slice none 0 0] 85)).heap.size = w.heap.size + 3) := by show _ = _; simp
 go_enter Tryz.func60, Tryz.ntmps60
 go_wp2_with fail
 refine (pcheck_any (Pu.new d a b) none 0 0 _ ⟨by simpa [flatH, Pu.new] using Rd.empty, by omega, by omega⟩).mono ?_
 rintro e w1 ⟨rfl, hb1⟩
 generalize (((w.alloc (.cells #[.int .u8 d.x0, .int .u8 d.x1, .int .u8 d.x2, .int .u8 d.x3, .int .u8 d.x4, .int .u8 d.x5, .int .u8 d.x6, .int .u8 d.x7] 27)).alloc (.cells #[.int .u8 0, .int .u8 0, .int .u8 0, .int .u8 0, .int .u8 0, .int .u8 0, .int .u8 0, .int .u8 0, .int .i64 0, .int .i64 0, .int .i64 0, .slice none 0 0] 85)).alloc (.cells #[.int .u8 d.x0, .int .u8 d.x1, .int .u8 d.x2, .int .u8 d.x3, .int .u8 d.x4, .int .u8 d.x5, .int .u8 d.x6, .int .u8 d.x7, .int .i64 0, .int .i64 a, .int .i64 b, .slice none 0 0] 85)) = w0 at *
 have T1 := block_below HT1.out hb1 (by rw [Hz.out]; omega)
 have T2 := block_below HT2.out hb1 (by rw [Hz.out]; omega)
 have Hw1 := Lib.hid (Hw.out.trans (hb1.mono Hw.out.size))
 have y := block_cell T2
 have y0 := y 0; have y1 := y 1; have y2 := y 2; have y3 := y 3; have y4 := y 4; have y5 := y 5; have y6 := y 6; have y7 := y 7; have y8 := y 8; have y9 := y 9; have y10 := y 10; have y11 := y 11
 have z := block_cell T1
 have z0 := z 0; have z1 := z 1; have z2 := z 2; have z3 := z 3; have z4 := z 4; have z5 := z 5; have z6 := z 6; have z7 := z 7; have z8 := z 8; have z9 := z 9; have z10 := z 10; have z11 := z 11
 have zf := block_free T1
 simp at y0 y1 y2 y3 y4 y5 y6 y7 y8 y9 y10 y11 z0 z1 z2 z3 z4 z5 z6 z7 z8 z9 z10 z11
 clear y z T1 T2 hb1
 by_cases hq : (Pu.new d a b).check = 0
 ·have b1 : ((Pu.new d a b).check != 0) = false := by simpa using hq
  have Hq := Lib.hid hq
  clear hq
  go_wp2
  refine bodyPost_ret (v := .tuple #[.agg #[.int .u8 d.x0, .int .u8 d.x1, .int .u8 d.x2, .int .u8 d.x3, .int .u8 d.x4, .int .u8 d.x5, .int .u8 d.x6, .int .u8 d.x7, .int .i64 0, .int .i64 a, .int .i64 b, .slice none 0 0], .int .i64 0]) (by simp [results, Tryz.results60, go_sem, z0, z1, z2, z3, z4, z5, z6, z7, z8, z9, z10, z11]) rfl ⟨by first | rfl | rw [if_pos Hq.out], ?_⟩
  repeat refine Below.setCell ?_ (by show w.heap.size ≤ w.heap.size + 1; omega) _
  exact Hw1.out
 ·have b1 : ((Pu.new d a b).check != 0) = true := by simpa using hq
  have Hq := Lib.hid hq
  clear hq
  go_wp2
  refine bodyPost_ret (v := .tuple #[.agg #[.int .u8 0, .int .u8 0, .int .u8 0, .int .u8 0, .int .u8 0, .int .u8 0, .int .u8 0, .int .u8 0, .int .i64 0, .int .i64 0, .int .i64 0, .slice none 0 0], .int .i64 2]) (by simp [results, Tryz.results60, go_sem, z0, z1, z2, z3, z4, z5, z6, z7, z8, z9, z10, z11]) rfl ⟨by first | rfl | rw [if_neg Hq.out], ?_⟩
  repeat refine Below.setCell ?_ (by show w.heap.size ≤ w.heap.size + 1; omega) _
  exact Hw1.out
end Go.Proofs.YthhiookcknnmdaaGreat
