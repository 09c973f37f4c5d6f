/- The walks of Pay, Hold, Free and Back of a purse. Conditions: bounds. -/
import Derived.Test.YthhiookcknnmdaaGreatPuN
namespace Go.Proofs.YthhiookcknnmdaaGreat
open Go.RowKit Go.Lib

set_option maxRecDepth 100000 in
set_option maxHeartbeats 2000000 in
theorem free_any (p : Pu) (A : Option Addr) (n c : Nat) (d : D8) (am : Int) (w : World) (h : PuV.At p A n c w) :
  Calls Tryz.prog 84 #[.agg #[.int .u8 p.nm.x0, .int .u8 p.nm.x1, .int .u8 p.nm.x2, .int .u8 p.nm.x3, .int .u8 p.nm.x4, .int .u8 p.nm.x5, .int .u8 p.nm.x6, .int .u8 p.nm.x7, .int .i64 p.no, .int .i64 p.h0, .int .i64 p.h1, .slice A n c], .agg #[.int .u8 d.x0, .int .u8 d.x1, .int .u8 d.x2, .int .u8 d.x3, .int .u8 d.x4, .int .u8 d.x5, .int .u8 d.x6, .int .u8 d.x7], .int .i64 am] w (GivesCh (p.free d am) w) := by
 have HR : Hid (((((w.alloc (.cells #[.int .u8 p.nm.x0, .int .u8 p.nm.x1, .int .u8 p.nm.x2, .int .u8 p.nm.x3, .int .u8 p.nm.x4, .int .u8 p.nm.x5, .int .u8 p.nm.x6, .int .u8 p.nm.x7, .int .i64 p.no, .int .i64 p.h0, .int .i64 p.h1, .slice A n c] 85)).alloc (.cells #[.int .u8 d.x0, .int .u8 d.x1, .int .u8 d.x2, .int .u8 d.x3, .int .u8 d.x4, .int .u8 d.x5, .int .u8 d.x6, .int .u8 d.x7] 27)).alloc (.cells #[.int .i64 am] 3)).alloc (.cells #[.int .u8 0, .int .u8 0, .int .u8 0, .int .u8 0, .int .u8 0, .int .u8 0, .int .u8 0, .int .u8 0, .int .i64 0, .int .i64 0, .int .i64 0, .slice none 0 0] 85)).heap[w.heap.size + 3]? = some (.cells #[.int .u8 0, .int .u8 0, .int .u8 0, .int .u8 0, .int .u8 0, .int .u8 0, .int .u8 0, .int .u8 0, .int .i64 0, .int .i64 0, .int .i64 0, .slice none 0 0] 85 (0, 0))) := alloc_at (by simp)
 have H1 : Hid (((((w.alloc (.cells #[.int .u8 p.nm.x0, .int .u8 p.nm.x1, .int .u8 p.nm.x2, .int .u8 p.nm.x3, .int .u8 p.nm.x4, .int .u8 p.nm.x5, .int .u8 p.nm.x6, .int .u8 p.nm.x7, .int .i64 p.no, .int .i64 p.h0, .int .i64 p.h1, .slice A n c] 85)).alloc (.cells #[.int .u8 d.x0, .int .u8 d.x1, .int .u8 d.x2, .int .u8 d.x3, .int .u8 d.x4, .int .u8 d.x5, .int .u8 d.x6, .int .u8 d.x7] 27)).alloc (.cells #[.int .i64 am] 3)).alloc (.cells #[.int .u8 0, .int .u8 0, .int .u8 0, .int .u8 0, .int .u8 0, .int .u8 0, .int .u8 0, .int .u8 0, .int .i64 0, .int .i64 0, .int .i64 0, .slice none 0 0] 85)).heap[w.heap.size + 1]? = some (.cells #[.int .u8 d.x0, .int .u8 d.x1, .int .u8 d.x2, .int .u8 d.x3, .int .u8 d.x4, .int .u8 d.x5, .int .u8 d.x6, .int .u8 d.x7] 27 (0, 0))) := block_alloc (block_alloc (alloc_at (by simp)) _) _
 have H2 : Hid (((((w.alloc (.cells #[.int .u8 p.nm.x0, .int .u8 p.nm.x1, .int .u8 p.nm.x2, .int .u8 p.nm.x3, .int .u8 p.nm.x4, .int .u8 p.nm.x5, .int .u8 p.nm.x6, .int .u8 p.nm.x7, .int .i64 p.no, .int .i64 p.h0, .int .i64 p.h1, .slice A n c] 85)).alloc (.cells #[.int .u8 d.x0, .int .u8 d.x1, .int .u8 d.x2, .int .u8 d.x3, .int .u8 d.x4, .int .u8 d.x5, .int .u8 d.x6, .int .u8 d.x7] 27)).alloc (.cells #[.int .i64 am] 3)).alloc (.cells #[.int .u8 0, .int .u8 0, .int .u8 0, .int .u8 0, .int .u8 0, .int .u8 0, .int .u8 0, .int .u8 0, .int .i64 0, .int .i64 0, .int .i64 0, .slice none 0 0] 85)).heap[w.heap.size + 1 + 1]? = some (.cells #[.int .i64 am] 3 (0, 0))) := block_alloc (alloc_at (by simp)) _
 have Hw : Hid (Below w.heap.size w ((((w.alloc (.cells #[.int .u8 p.nm.x0, .int .u8 p.nm.x1, .int .u8 p.nm.x2, .int .u8 p.nm.x3, .int .u8 p.nm.x4, .int .u8 p.nm.x5, .int .u8 p.nm.x6, .int .u8 p.nm.x7, .int .i64 p.no, .int .i64 p.h0, .int .i64 p.h1, .slice A n c] 85)).alloc (.cells #[.int .u8 d.x0, .int .u8 d.x1, .int .u8 d.x2, .int .u8 d.x3, .int .u8 d.x4, .int .u8 d.x5, .int .u8 d.x6, .int .u8 d.x7] 27)).alloc (.cells #[.int .i64 am] 3)).alloc (.cells #[.int .u8 0, .int .u8 0, .int .u8 0, .int .u8 0, .int .u8 0, .int .u8 0, .int .u8 0, .int .u8 0, .int .i64 0, .int .i64 0, .int .i64 0, .slice none 0 0] 85))) := (((below_two w _ _).alloc (by simp; omega) _).alloc (by simp; omega) _)
 have Hz : Hid (((((w.alloc (.cells #[.int .u8 p.nm.x0, .int .u8 p.nm.x1, .int .u8 p.nm.x2, .int .u8 p.nm.x3, .int .u8 p.nm.x4, .int .u8 p.nm.x5, .int .u8 p.nm.x6, .int .u8 p.nm.x7, .int .i64 p.no, .int .i64 p.h0, .int .i64 p.h1, .slice A n c] 85)).alloc (.cells #[.int .u8 d.x0, .int .u8 d.x1, .int .u8 d.x2, .int .u8 d.x3, .int .u8 d.x4, .int .u8 d.x5, .int .u8 d.x6, .int .u8 d.x7] 27)).alloc (.cells #[.int .i64 am] 3)).alloc (.cells #[.int .u8 0, .int .u8 0, .int .u8 0, .int .u8 0, .int .u8 0, .int .u8 0, .int .u8 0, .int .u8 0, .int .i64 0, .int .i64 0, .int .i64 0, .slice none 0 0] 85)).heap.size = w.heap.size + 4) := by show _ = _; simp
 have H := Lib.hid (h.up Hw.out)
 clear h
 go_enter Tryz.func84, Tryz.ntmps84
 go_wp2_with fail
 generalize ((((w.alloc (.cells #[.int .u8 p.nm.x0, .int .u8 p.nm.x1, .int .u8 p.nm.x2, .int .u8 p.nm.x3, .int .u8 p.nm.x4, .int .u8 p.nm.x5, .int .u8 p.nm.x6, .int .u8 p.nm.x7, .int .i64 p.no, .int .i64 p.h0, .int .i64 p.h1, .slice A n c] 85)).alloc (.cells #[.int .u8 d.x0, .int .u8 d.x1, .int .u8 d.x2, .int .u8 d.x3, .int .u8 d.x4, .int .u8 d.x5, .int .u8 d.x6, .int .u8 d.x7] 27)).alloc (.cells #[.int .i64 am] 3)).alloc (.cells #[.int .u8 0, .int .u8 0, .int .u8 0, .int .u8 0, .int .u8 0, .int .u8 0, .int .u8 0, .int .u8 0, .int .i64 0, .int .i64 0, .int .i64 0, .slice none 0 0] 85)) = w0 at *
 rw [free_via]; refine (chFree p A n c _ _ (p.freeI d am) w0 H.out (fun hc g A2 n2 c2 w2 hq hb => free1_any _ g p A2 n2 c2 _ _ d am w2 hq hc (block_below H1.out hb (by rw [Hz.out]; omega)) (block_cell (block_below H2.out hb (by rw [Hz.out]; omega)) 0) (by have := hb.size; rw [Hz.out] at this; omega)) (freeI_no p d am)).mono ?_; rw [← free_via]
 rintro e w4 ⟨A4, n4, c4, rfl, ho4, hb4⟩
 have HR4 := Lib.hid (block_below HR.out hb4 (by have := Hz.out; omega))
 have Hw4 := Lib.hid (Hw.out.trans (hb4.mono Hw.out.size))
 have HO3 := Lib.hid ho4
 have r := block_cell HR4.out
 have r0 := r 0; have r1 := r 1; have r2 := r 2; have r3 := r 3; have r4 := r 4; have r5 := r 5; have r6 := r 6; have r7 := r 7; have r8 := r 8; have r9 := r 9; have r10 := r 10; have r11 := r 11
 have rf := block_free HR4.out
 simp at r0 r1 r2 r3 r4 r5 r6 r7 r8 r9 r10 r11
 clear r
 clear hb4 ho4
 go_wp2
 refine bodyPost_ret (v := .tuple #[.agg #[.int .u8 (p.free d am).2.nm.x0, .int .u8 (p.free d am).2.nm.x1, .int .u8 (p.free d am).2.nm.x2, .int .u8 (p.free d am).2.nm.x3, .int .u8 (p.free d am).2.nm.x4, .int .u8 (p.free d am).2.nm.x5, .int .u8 (p.free d am).2.nm.x6, .int .u8 (p.free d am).2.nm.x7, .int .i64 (p.free d am).2.no, .int .i64 (p.free d am).2.h0, .int .i64 (p.free d am).2.h1, .slice A4 n4 c4], .int .i64 (p.free d am).1]) (by simp [results, Tryz.results84, go_sem, r0, r1, r2, r3, r4, r5, r6, r7, r8, r9, r10, r11]) rfl ⟨A4, n4, c4, rfl, ?_, ?_⟩
 ·refine pown_down (base := w0.heap.size) ?_ Hw.out.size
  repeat refine ownsRow_setCell_below ?_ (by show w.heap.size + 3 < _; have := Hz.out; omega) _
  exact HO3.out
 ·repeat refine Below.setCell ?_ (by show w.heap.size ≤ w.heap.size + 3; omega) _
  exact Hw4.out
set_option maxRecDepth 100000 in
set_option maxHeartbeats 2000000 in
theorem hold_any (p : Pu) (A : Option Addr) (n c : Nat) (h : Hd) (w : World) (hp : PuV.At p A n c w) :
  Calls Tryz.prog 132 #[.agg #[.int .u8 p.nm.x0, .int .u8 p.nm.x1, .int .u8 p.nm.x2, .int .u8 p.nm.x3, .int .u8 p.nm.x4, .int .u8 p.nm.x5, .int .u8 p.nm.x6, .int .u8 p.nm.x7, .int .i64 p.no, .int .i64 p.h0, .int .i64 p.h1, .slice A n c], .agg #[.int .u8 h.nm.x0, .int .u8 h.nm.x1, .int .u8 h.nm.x2, .int .u8 h.nm.x3, .int .u8 h.nm.x4, .int .u8 h.nm.x5, .int .u8 h.nm.x6, .int .u8 h.nm.x7, .int .i64 h.am, .int .i64 h.fr, .int .i64 h.un]] w (GivesCh (p.hold h) w) := by
 have HR : Hid ((((w.alloc (.cells #[.int .u8 p.nm.x0, .int .u8 p.nm.x1, .int .u8 p.nm.x2, .int .u8 p.nm.x3, .int .u8 p.nm.x4, .int .u8 p.nm.x5, .int .u8 p.nm.x6, .int .u8 p.nm.x7, .int .i64 p.no, .int .i64 p.h0, .int .i64 p.h1, .slice A n c] 85)).alloc (.cells #[.int .u8 h.nm.x0, .int .u8 h.nm.x1, .int .u8 h.nm.x2, .int .u8 h.nm.x3, .int .u8 h.nm.x4, .int .u8 h.nm.x5, .int .u8 h.nm.x6, .int .u8 h.nm.x7, .int .i64 h.am, .int .i64 h.fr, .int .i64 h.un] 120)).alloc (.cells #[.int .u8 0, .int .u8 0, .int .u8 0, .int .u8 0, .int .u8 0, .int .u8 0, .int .u8 0, .int .u8 0, .int .i64 0, .int .i64 0, .int .i64 0, .slice none 0 0] 85)).heap[w.heap.size + 2]? = some (.cells #[.int .u8 0, .int .u8 0, .int .u8 0, .int .u8 0, .int .u8 0, .int .u8 0, .int .u8 0, .int .u8 0, .int .i64 0, .int .i64 0, .int .i64 0, .slice none 0 0] 85 (0, 0))) := alloc_at (by simp)
 have H1 : Hid ((((w.alloc (.cells #[.int .u8 p.nm.x0, .int .u8 p.nm.x1, .int .u8 p.nm.x2, .int .u8 p.nm.x3, .int .u8 p.nm.x4, .int .u8 p.nm.x5, .int .u8 p.nm.x6, .int .u8 p.nm.x7, .int .i64 p.no, .int .i64 p.h0, .int .i64 p.h1, .slice A n c] 85)).alloc (.cells #[.int .u8 h.nm.x0, .int .u8 h.nm.x1, .int .u8 h.nm.x2, .int .u8 h.nm.x3, .int .u8 h.nm.x4, .int .u8 h.nm.x5, .int .u8 h.nm.x6, .int .u8 h.nm.x7, .int .i64 h.am, .int .i64 h.fr, .int .i64 h.un] 120)).alloc (.cells #[.int .u8 0, .int .u8 0, .int .u8 0, .int .u8 0, .int .u8 0, .int .u8 0, .int .u8 0, .int .u8 0, .int .i64 0, .int .i64 0, .int .i64 0, .slice none 0 0] 85)).heap[w.heap.size + 1]? = some (.cells #[.int .u8 h.nm.x0, .int .u8 h.nm.x1, .int .u8 h.nm.x2, .int .u8 h.nm.x3, .int .u8 h.nm.x4, .int .u8 h.nm.x5, .int .u8 h.nm.x6, .int .u8 h.nm.x7, .int .i64 h.am, .int .i64 h.fr, .int .i64 h.un] 120 (0, 0))) := block_alloc (alloc_at (by simp)) _
 have Hw : Hid (Below w.heap.size w (((w.alloc (.cells #[.int .u8 p.nm.x0, .int .u8 p.nm.x1, .int .u8 p.nm.x2, .int .u8 p.nm.x3, .int .u8 p.nm.x4, .int .u8 p.nm.x5, .int .u8 p.nm.x6, .int .u8 p.nm.x7, .int .i64 p.no, .int .i64 p.h0, .int .i64 p.h1, .slice A n c] 85)).alloc (.cells #[.int .u8 h.nm.x0, .int .u8 h.nm.x1, .int .u8 h.nm.x2, .int .u8 h.nm.x3, .int .u8 h.nm.x4, .int .u8 h.nm.x5, .int .u8 h.nm.x6, .int .u8 h.nm.x7, .int .i64 h.am, .int .i64 h.fr, .int .i64 h.un] 120)).alloc (.cells #[.int .u8 0, .int .u8 0, .int .u8 0, .int .u8 0, .int .u8 0, .int .u8 0, .int .u8 0, .int .u8 0, .int .i64 0, .int .i64 0, .int .i64 0, .slice none 0 0] 85))) := ((below_two w _ _).alloc (by simp; omega) _)
 have Hz : Hid ((((w.alloc (.cells #[.int .u8 p.nm.x0, .int .u8 p.nm.x1, .int .u8 p.nm.x2, .int .u8 p.nm.x3, .int .u8 p.nm.x4, .int .u8 p.nm.x5, .int .u8 p.nm.x6, .int .u8 p.nm.x7, .int .i64 p.no, .int .i64 p.h0, .int .i64 p.h1, .slice A n c] 85)).alloc (.cells #[.int .u8 h.nm.x0, .int .u8 h.nm.x1, .int .u8 h.nm.x2, .int .u8 h.nm.x3, .int .u8 h.nm.x4, .int .u8 h.nm.x5, .int .u8 h.nm.x6, .int .u8 h.nm.x7, .int .i64 h.am, .int .i64 h.fr, .int .i64 h.un] 120)).alloc (.cells #[.int .u8 0, .int .u8 0, .int .u8 0, .int .u8 0, .int .u8 0, .int .u8 0, .int .u8 0, .int .u8 0, .int .i64 0, .int .i64 0, .int .i64 0, .slice none 0 0] 85)).heap.size = w.heap.size + 3) := by show _ = _; simp
 have H := Lib.hid (hp.up Hw.out)
 clear hp
 go_enter Tryz.func132, Tryz.ntmps132
 go_wp2_with fail
 generalize (((w.alloc (.cells #[.int .u8 p.nm.x0, .int .u8 p.nm.x1, .int .u8 p.nm.x2, .int .u8 p.nm.x3, .int .u8 p.nm.x4, .int .u8 p.nm.x5, .int .u8 p.nm.x6, .int .u8 p.nm.x7, .int .i64 p.no, .int .i64 p.h0, .int .i64 p.h1, .slice A n c] 85)).alloc (.cells #[.int .u8 h.nm.x0, .int .u8 h.nm.x1, .int .u8 h.nm.x2, .int .u8 h.nm.x3, .int .u8 h.nm.x4, .int .u8 h.nm.x5, .int .u8 h.nm.x6, .int .u8 h.nm.x7, .int .i64 h.am, .int .i64 h.fr, .int .i64 h.un] 120)).alloc (.cells #[.int .u8 0, .int .u8 0, .int .u8 0, .int .u8 0, .int .u8 0, .int .u8 0, .int .u8 0, .int .u8 0, .int .i64 0, .int .i64 0, .int .i64 0, .slice none 0 0] 85)) = w0 at *
 rw [hold_via]; refine (chHold p A n c _ (p.holdI h) w0 H.out (fun hc g A2 n2 c2 w2 hq hb => hold1_any _ g p A2 n2 c2 _ h w2 hq hc (block_below H1.out hb (by rw [Hz.out]; omega)) (by rw [Hz.out]; omega)) (holdI_no p h)).mono ?_; rw [← hold_via]
 rintro e w4 ⟨A4, n4, c4, rfl, ho4, hb4⟩
 have HR4 := Lib.hid (block_below HR.out hb4 (by have := Hz.out; omega))
 have Hw4 := Lib.hid (Hw.out.trans (hb4.mono Hw.out.size))
 have HO3 := Lib.hid ho4
 have r := block_cell HR4.out
 have r0 := r 0; have r1 := r 1; have r2 := r 2; have r3 := r 3; have r4 := r 4; have r5 := r 5; have r6 := r 6; have r7 := r 7; have r8 := r 8; have r9 := r 9; have r10 := r 10; have r11 := r 11
 have rf := block_free HR4.out
 simp at r0 r1 r2 r3 r4 r5 r6 r7 r8 r9 r10 r11
 clear r
 clear hb4 ho4
 go_wp2
 refine bodyPost_ret (v := .tuple #[.agg #[.int .u8 (p.hold h).2.nm.x0, .int .u8 (p.hold h).2.nm.x1, .int .u8 (p.hold h).2.nm.x2, .int .u8 (p.hold h).2.nm.x3, .int .u8 (p.hold h).2.nm.x4, .int .u8 (p.hold h).2.nm.x5, .int .u8 (p.hold h).2.nm.x6, .int .u8 (p.hold h).2.nm.x7, .int .i64 (p.hold h).2.no, .int .i64 (p.hold h).2.h0, .int .i64 (p.hold h).2.h1, .slice A4 n4 c4], .int .i64 (p.hold h).1]) (by simp [results, Tryz.results132, go_sem, r0, r1, r2, r3, r4, r5, r6, r7, r8, r9, r10, r11]) rfl ⟨A4, n4, c4, rfl, ?_, ?_⟩
 ·refine pown_down (base := w0.heap.size) ?_ Hw.out.size
  repeat refine ownsRow_setCell_below ?_ (by show w.heap.size + 2 < _; have := Hz.out; omega) _
  exact HO3.out
 ·repeat refine Below.setCell ?_ (by show w.heap.size ≤ w.heap.size + 2; omega) _
  exact Hw4.out
end Go.Proofs.YthhiookcknnmdaaGreat
