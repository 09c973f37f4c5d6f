/- The walk of do (layer 47): a deed is done on a purse. Conditions: bounds. -/
import Derived.Test.YtjiecnoplnaahaaPuO
namespace Go.Proofs.Ytjiecnoplnaahaa
open Go.RowKit Go.Lib


theorem deed0 {p : Pu} {d : Dd} (h : d.w % 4 = 0) : p.deed d = p.pay d.fr d.am := by unfold Pu.deed; rw [if_pos h]
theorem deed1 {p : Pu} {d : Dd} (h : d.w % 4 = 1) : p.deed d = p.hold ⟨d.nm, d.am, d.fr, d.un⟩ := by unfold Pu.deed; rw [if_neg (by omega), if_pos h]
theorem deed2 {p : Pu} {d : Dd} (h : d.w % 4 = 2) : p.deed d = p.free d.nm d.am := by unfold Pu.deed; rw [if_neg (by omega), if_neg (by omega), if_pos h]
theorem deed3 {p : Pu} {d : Dd} (h : d.w % 4 = 3) : p.deed d = p.back d.nm d.un := by unfold Pu.deed; rw [if_neg (by omega), if_neg (by omega), if_neg (by omega)]
set_option maxRecDepth 100000 in
set_option maxHeartbeats 2000000 in
theorem do_any (p : Pu) (A : Option Addr) (n c : Nat) (d : Dd) (w : World) (hp : PuV.At p A n c w) (hd : d.w < 256) :
    Calls Try.prog 16 #[.agg #[.int .u8 (p.nm.x0 : Int), .int .u8 (p.nm.x1 : Int), .int .u8 (p.nm.x2 : Int), .int .u8 (p.nm.x3 : Int), .int .u8 (p.nm.x4 : Int), .int .u8 (p.nm.x5 : Int), .int .u8 (p.nm.x6 : Int), .int .u8 (p.nm.x7 : Int), .int .i64 p.no, .int .i64 p.h0, .int .i64 p.h1, .slice A n c], .agg #[.int .u8 (d.w : Int), .int .u8 (d.nm.x0 : Int), .int .u8 (d.nm.x1 : Int), .int .u8 (d.nm.x2 : Int), .int .u8 (d.nm.x3 : Int), .int .u8 (d.nm.x4 : Int), .int .u8 (d.nm.x5 : Int), .int .u8 (d.nm.x6 : Int), .int .u8 (d.nm.x7 : Int), .int .i64 d.am, .int .i64 d.fr, .int .i64 d.un]] w (GivesCh (p.deed d) w) := by
  have HR : Hid ((((w.alloc (.cells #[.int .u8 (p.nm.x0 : Int), .int .u8 (p.nm.x1 : Int), .int .u8 (p.nm.x2 : Int), .int .u8 (p.nm.x3 : Int), .int .u8 (p.nm.x4 : Int), .int .u8 (p.nm.x5 : Int), .int .u8 (p.nm.x6 : Int), .int .u8 (p.nm.x7 : Int), .int .i64 p.no, .int .i64 p.h0, .int .i64 p.h1, .slice A n c] 32)).alloc (.cells #[.int .u8 (d.w : Int), .int .u8 (d.nm.x0 : Int), .int .u8 (d.nm.x1 : Int), .int .u8 (d.nm.x2 : Int), .int .u8 (d.nm.x3 : Int), .int .u8 (d.nm.x4 : Int), .int .u8 (d.nm.x5 : Int), .int .u8 (d.nm.x6 : Int), .int .u8 (d.nm.x7 : Int), .int .i64 d.am, .int .i64 d.fr, .int .i64 d.un] 43)).alloc (.cells #[.int .u8 0, .int .u8 0, .int .u8 0, .int .u8 0, .int .u8 0, .int .u8 0, .int .u8 0, .int .u8 0, .int .i64 0, .int .i64 0, .int .i64 0, .slice none 0 0] 32)).heap[w.heap.size + 2]? = some (.cells #[.int .u8 0, .int .u8 0, .int .u8 0, .int .u8 0, .int .u8 0, .int .u8 0, .int .u8 0, .int .u8 0, .int .i64 0, .int .i64 0, .int .i64 0, .slice none 0 0] 32 (0, 0))) := alloc_at (by simp)
  have Hw : Hid (Below w.heap.size w (((w.alloc (.cells #[.int .u8 (p.nm.x0 : Int), .int .u8 (p.nm.x1 : Int), .int .u8 (p.nm.x2 : Int), .int .u8 (p.nm.x3 : Int), .int .u8 (p.nm.x4 : Int), .int .u8 (p.nm.x5 : Int), .int .u8 (p.nm.x6 : Int), .int .u8 (p.nm.x7 : Int), .int .i64 p.no, .int .i64 p.h0, .int .i64 p.h1, .slice A n c] 32)).alloc (.cells #[.int .u8 (d.w : Int), .int .u8 (d.nm.x0 : Int), .int .u8 (d.nm.x1 : Int), .int .u8 (d.nm.x2 : Int), .int .u8 (d.nm.x3 : Int), .int .u8 (d.nm.x4 : Int), .int .u8 (d.nm.x5 : Int), .int .u8 (d.nm.x6 : Int), .int .u8 (d.nm.x7 : Int), .int .i64 d.am, .int .i64 d.fr, .int .i64 d.un] 43)).alloc (.cells #[.int .u8 0, .int .u8 0, .int .u8 0, .int .u8 0, .int .u8 0, .int .u8 0, .int .u8 0, .int .u8 0, .int .i64 0, .int .i64 0, .int .i64 0, .slice none 0 0] 32))) := ((below_two w _ _).alloc (by simp; omega) _)
  have Hz : Hid ((((w.alloc (.cells #[.int .u8 (p.nm.x0 : Int), .int .u8 (p.nm.x1 : Int), .int .u8 (p.nm.x2 : Int), .int .u8 (p.nm.x3 : Int), .int .u8 (p.nm.x4 : Int), .int .u8 (p.nm.x5 : Int), .int .u8 (p.nm.x6 : Int), .int .u8 (p.nm.x7 : Int), .int .i64 p.no, .int .i64 p.h0, .int .i64 p.h1, .slice A n c] 32)).alloc (.cells #[.int .u8 (d.w : Int), .int .u8 (d.nm.x0 : Int), .int .u8 (d.nm.x1 : Int), .int .u8 (d.nm.x2 : Int), .int .u8 (d.nm.x3 : Int), .int .u8 (d.nm.x4 : Int), .int .u8 (d.nm.x5 : Int), .int .u8 (d.nm.x6 : Int), .int .u8 (d.nm.x7 : Int), .int .i64 d.am, .int .i64 d.fr, .int .i64 d.un] 43)).alloc (.cells #[.int .u8 0, .int .u8 0, .int .u8 0, .int .u8 0, .int .u8 0, .int .u8 0, .int .u8 0, .int .u8 0, .int .i64 0, .int .i64 0, .int .i64 0, .slice none 0 0] 32)).heap.size = w.heap.size + 3) := by show _ = _; simp
  have H := Lib.hid (hp.up Hw.out)
  clear hp
  have hw0 : (0 : Int) ≤ (d.w : Int) := by omega
  have hw1 : (d.w : Int) ≤ 255 := by omega
  rcases (show d.w % 4 = 0 ∨ d.w % 4 = 1 ∨ d.w % 4 = 2 ∨ d.w % 4 = 3 by omega) with h4 | h4 | h4 | h4
  ·
    have hrem : (d.w : Int) % 4 = 0 := by omega
    have Hr : Hid (p.deed d = p.pay d.fr d.am) := deed0 h4
    clear h4
    go_enter Try.func16, Try.ntmps16
    go_wp2_with fail
    generalize (((w.alloc (.cells #[.int .u8 (p.nm.x0 : Int), .int .u8 (p.nm.x1 : Int), .int .u8 (p.nm.x2 : Int), .int .u8 (p.nm.x3 : Int), .int .u8 (p.nm.x4 : Int), .int .u8 (p.nm.x5 : Int), .int .u8 (p.nm.x6 : Int), .int .u8 (p.nm.x7 : Int), .int .i64 p.no, .int .i64 p.h0, .int .i64 p.h1, .slice A n c] 32)).alloc (.cells #[.int .u8 (d.w : Int), .int .u8 (d.nm.x0 : Int), .int .u8 (d.nm.x1 : Int), .int .u8 (d.nm.x2 : Int), .int .u8 (d.nm.x3 : Int), .int .u8 (d.nm.x4 : Int), .int .u8 (d.nm.x5 : Int), .int .u8 (d.nm.x6 : Int), .int .u8 (d.nm.x7 : Int), .int .i64 d.am, .int .i64 d.fr, .int .i64 d.un] 43)).alloc (.cells #[.int .u8 0, .int .u8 0, .int .u8 0, .int .u8 0, .int .u8 0, .int .u8 0, .int .u8 0, .int .u8 0, .int .i64 0, .int .i64 0, .int .i64 0, .slice none 0 0] 32)) = w0 at *
    refine (pay_any p A n c d.fr d.am w0 H.out).mono ?_
    rw [← Hr.out]
    rintro e w4 ⟨A4, n4, c4, rfl, ho4, hb4⟩
    have HR4 := Lib.hid (block_below HR.out hb4 (by have := Hz.out; omega))
    have Hw4 := Lib.hid (Hw.out.trans (hb4.mono Hw.out.size))
    have HO3 := Lib.hid ho4
    have r := block_cell HR4.out
    have r0 := r 0; have r1 := r 1; have r2 := r 2; have r3 := r 3; have r4 := r 4; have r5 := r 5; have r6 := r 6; have r7 := r 7; have r8 := r 8; have r9 := r 9; have r10 := r 10; have r11 := r 11
    have rf := block_free HR4.out
    simp at r0 r1 r2 r3 r4 r5 r6 r7 r8 r9 r10 r11
    clear r
    clear hb4 ho4
    go_wp2
    refine bodyPost_ret (v := .tuple #[.agg #[.int .u8 ((p.deed d).2.nm.x0 : Int), .int .u8 ((p.deed d).2.nm.x1 : Int), .int .u8 ((p.deed d).2.nm.x2 : Int), .int .u8 ((p.deed d).2.nm.x3 : Int), .int .u8 ((p.deed d).2.nm.x4 : Int), .int .u8 ((p.deed d).2.nm.x5 : Int), .int .u8 ((p.deed d).2.nm.x6 : Int), .int .u8 ((p.deed d).2.nm.x7 : Int), .int .i64 (p.deed d).2.no, .int .i64 (p.deed d).2.h0, .int .i64 (p.deed d).2.h1, .slice A4 n4 c4], .int .i64 (p.deed d).1]) (by simp [results, Try.results16, go_sem, r0, r1, r2, r3, r4, r5, r6, r7, r8, r9, r10, r11]) rfl ⟨A4, n4, c4, rfl, ?_, ?_⟩
    · refine pown_down (base := w0.heap.size) ?_ Hw.out.size
      repeat refine ownsRow_setCell_below ?_ (by show w.heap.size + 2 < _; have := Hz.out; omega) _
      exact HO3.out
    · repeat refine Below.setCell ?_ (by show w.heap.size ≤ w.heap.size + 2; omega) _
      exact Hw4.out
  ·
    have hrem : (d.w : Int) % 4 = 1 := by omega
    have Hr : Hid (p.deed d = p.hold ⟨d.nm, d.am, d.fr, d.un⟩) := deed1 h4
    clear h4
    go_enter Try.func16, Try.ntmps16
    go_wp2_with fail
    generalize (((w.alloc (.cells #[.int .u8 (p.nm.x0 : Int), .int .u8 (p.nm.x1 : Int), .int .u8 (p.nm.x2 : Int), .int .u8 (p.nm.x3 : Int), .int .u8 (p.nm.x4 : Int), .int .u8 (p.nm.x5 : Int), .int .u8 (p.nm.x6 : Int), .int .u8 (p.nm.x7 : Int), .int .i64 p.no, .int .i64 p.h0, .int .i64 p.h1, .slice A n c] 32)).alloc (.cells #[.int .u8 (d.w : Int), .int .u8 (d.nm.x0 : Int), .int .u8 (d.nm.x1 : Int), .int .u8 (d.nm.x2 : Int), .int .u8 (d.nm.x3 : Int), .int .u8 (d.nm.x4 : Int), .int .u8 (d.nm.x5 : Int), .int .u8 (d.nm.x6 : Int), .int .u8 (d.nm.x7 : Int), .int .i64 d.am, .int .i64 d.fr, .int .i64 d.un] 43)).alloc (.cells #[.int .u8 0, .int .u8 0, .int .u8 0, .int .u8 0, .int .u8 0, .int .u8 0, .int .u8 0, .int .u8 0, .int .i64 0, .int .i64 0, .int .i64 0, .slice none 0 0] 32)) = w0 at *
    refine (hold_any p A n c ⟨d.nm, d.am, d.fr, d.un⟩ w0 H.out).mono ?_
    rw [← Hr.out]
    rintro e w4 ⟨A4, n4, c4, rfl, ho4, hb4⟩
    have HR4 := Lib.hid (block_below HR.out hb4 (by have := Hz.out; omega))
    have Hw4 := Lib.hid (Hw.out.trans (hb4.mono Hw.out.size))
    have HO3 := Lib.hid ho4
    have r := block_cell HR4.out
    have r0 := r 0; have r1 := r 1; have r2 := r 2; have r3 := r 3; have r4 := r 4; have r5 := r 5; have r6 := r 6; have r7 := r 7; have r8 := r 8; have r9 := r 9; have r10 := r 10; have r11 := r 11
    have rf := block_free HR4.out
    simp at r0 r1 r2 r3 r4 r5 r6 r7 r8 r9 r10 r11
    clear r
    clear hb4 ho4
    go_wp2
    refine bodyPost_ret (v := .tuple #[.agg #[.int .u8 ((p.deed d).2.nm.x0 : Int), .int .u8 ((p.deed d).2.nm.x1 : Int), .int .u8 ((p.deed d).2.nm.x2 : Int), .int .u8 ((p.deed d).2.nm.x3 : Int), .int .u8 ((p.deed d).2.nm.x4 : Int), .int .u8 ((p.deed d).2.nm.x5 : Int), .int .u8 ((p.deed d).2.nm.x6 : Int), .int .u8 ((p.deed d).2.nm.x7 : Int), .int .i64 (p.deed d).2.no, .int .i64 (p.deed d).2.h0, .int .i64 (p.deed d).2.h1, .slice A4 n4 c4], .int .i64 (p.deed d).1]) (by simp [results, Try.results16, go_sem, r0, r1, r2, r3, r4, r5, r6, r7, r8, r9, r10, r11]) rfl ⟨A4, n4, c4, rfl, ?_, ?_⟩
    · refine pown_down (base := w0.heap.size) ?_ Hw.out.size
      repeat refine ownsRow_setCell_below ?_ (by show w.heap.size + 2 < _; have := Hz.out; omega) _
      exact HO3.out
    · repeat refine Below.setCell ?_ (by show w.heap.size ≤ w.heap.size + 2; omega) _
      exact Hw4.out
  ·
    have hrem : (d.w : Int) % 4 = 2 := by omega
    have Hr : Hid (p.deed d = p.free d.nm d.am) := deed2 h4
    clear h4
    go_enter Try.func16, Try.ntmps16
    go_wp2_with fail
    generalize (((w.alloc (.cells #[.int .u8 (p.nm.x0 : Int), .int .u8 (p.nm.x1 : Int), .int .u8 (p.nm.x2 : Int), .int .u8 (p.nm.x3 : Int), .int .u8 (p.nm.x4 : Int), .int .u8 (p.nm.x5 : Int), .int .u8 (p.nm.x6 : Int), .int .u8 (p.nm.x7 : Int), .int .i64 p.no, .int .i64 p.h0, .int .i64 p.h1, .slice A n c] 32)).alloc (.cells #[.int .u8 (d.w : Int), .int .u8 (d.nm.x0 : Int), .int .u8 (d.nm.x1 : Int), .int .u8 (d.nm.x2 : Int), .int .u8 (d.nm.x3 : Int), .int .u8 (d.nm.x4 : Int), .int .u8 (d.nm.x5 : Int), .int .u8 (d.nm.x6 : Int), .int .u8 (d.nm.x7 : Int), .int .i64 d.am, .int .i64 d.fr, .int .i64 d.un] 43)).alloc (.cells #[.int .u8 0, .int .u8 0, .int .u8 0, .int .u8 0, .int .u8 0, .int .u8 0, .int .u8 0, .int .u8 0, .int .i64 0, .int .i64 0, .int .i64 0, .slice none 0 0] 32)) = w0 at *
    refine (free_any p A n c d.nm d.am w0 H.out).mono ?_
    rw [← Hr.out]
    rintro e w4 ⟨A4, n4, c4, rfl, ho4, hb4⟩
    have HR4 := Lib.hid (block_below HR.out hb4 (by have := Hz.out; omega))
    have Hw4 := Lib.hid (Hw.out.trans (hb4.mono Hw.out.size))
    have HO3 := Lib.hid ho4
    have r := block_cell HR4.out
    have r0 := r 0; have r1 := r 1; have r2 := r 2; have r3 := r 3; have r4 := r 4; have r5 := r 5; have r6 := r 6; have r7 := r 7; have r8 := r 8; have r9 := r 9; have r10 := r 10; have r11 := r 11
    have rf := block_free HR4.out
    simp at r0 r1 r2 r3 r4 r5 r6 r7 r8 r9 r10 r11
    clear r
    clear hb4 ho4
    go_wp2
    refine bodyPost_ret (v := .tuple #[.agg #[.int .u8 ((p.deed d).2.nm.x0 : Int), .int .u8 ((p.deed d).2.nm.x1 : Int), .int .u8 ((p.deed d).2.nm.x2 : Int), .int .u8 ((p.deed d).2.nm.x3 : Int), .int .u8 ((p.deed d).2.nm.x4 : Int), .int .u8 ((p.deed d).2.nm.x5 : Int), .int .u8 ((p.deed d).2.nm.x6 : Int), .int .u8 ((p.deed d).2.nm.x7 : Int), .int .i64 (p.deed d).2.no, .int .i64 (p.deed d).2.h0, .int .i64 (p.deed d).2.h1, .slice A4 n4 c4], .int .i64 (p.deed d).1]) (by simp [results, Try.results16, go_sem, r0, r1, r2, r3, r4, r5, r6, r7, r8, r9, r10, r11]) rfl ⟨A4, n4, c4, rfl, ?_, ?_⟩
    · refine pown_down (base := w0.heap.size) ?_ Hw.out.size
      repeat refine ownsRow_setCell_below ?_ (by show w.heap.size + 2 < _; have := Hz.out; omega) _
      exact HO3.out
    · repeat refine Below.setCell ?_ (by show w.heap.size ≤ w.heap.size + 2; omega) _
      exact Hw4.out
  ·
    have hrem : (d.w : Int) % 4 = 3 := by omega
    have Hr : Hid (p.deed d = p.back d.nm d.un) := deed3 h4
    clear h4
    go_enter Try.func16, Try.ntmps16
    go_wp2_with fail
    generalize (((w.alloc (.cells #[.int .u8 (p.nm.x0 : Int), .int .u8 (p.nm.x1 : Int), .int .u8 (p.nm.x2 : Int), .int .u8 (p.nm.x3 : Int), .int .u8 (p.nm.x4 : Int), .int .u8 (p.nm.x5 : Int), .int .u8 (p.nm.x6 : Int), .int .u8 (p.nm.x7 : Int), .int .i64 p.no, .int .i64 p.h0, .int .i64 p.h1, .slice A n c] 32)).alloc (.cells #[.int .u8 (d.w : Int), .int .u8 (d.nm.x0 : Int), .int .u8 (d.nm.x1 : Int), .int .u8 (d.nm.x2 : Int), .int .u8 (d.nm.x3 : Int), .int .u8 (d.nm.x4 : Int), .int .u8 (d.nm.x5 : Int), .int .u8 (d.nm.x6 : Int), .int .u8 (d.nm.x7 : Int), .int .i64 d.am, .int .i64 d.fr, .int .i64 d.un] 43)).alloc (.cells #[.int .u8 0, .int .u8 0, .int .u8 0, .int .u8 0, .int .u8 0, .int .u8 0, .int .u8 0, .int .u8 0, .int .i64 0, .int .i64 0, .int .i64 0, .slice none 0 0] 32)) = w0 at *
    refine (back_any p A n c d.nm d.un w0 H.out).mono ?_
    rw [← Hr.out]
    rintro e w4 ⟨A4, n4, c4, rfl, ho4, hb4⟩
    have HR4 := Lib.hid (block_below HR.out hb4 (by have := Hz.out; omega))
    have Hw4 := Lib.hid (Hw.out.trans (hb4.mono Hw.out.size))
    have HO3 := Lib.hid ho4
    have r := block_cell HR4.out
    have r0 := r 0; have r1 := r 1; have r2 := r 2; have r3 := r 3; have r4 := r 4; have r5 := r 5; have r6 := r 6; have r7 := r 7; have r8 := r 8; have r9 := r 9; have r10 := r 10; have r11 := r 11
    have rf := block_free HR4.out
    simp at r0 r1 r2 r3 r4 r5 r6 r7 r8 r9 r10 r11
    clear r
    clear hb4 ho4
    go_wp2
    refine bodyPost_ret (v := .tuple #[.agg #[.int .u8 ((p.deed d).2.nm.x0 : Int), .int .u8 ((p.deed d).2.nm.x1 : Int), .int .u8 ((p.deed d).2.nm.x2 : Int), .int .u8 ((p.deed d).2.nm.x3 : Int), .int .u8 ((p.deed d).2.nm.x4 : Int), .int .u8 ((p.deed d).2.nm.x5 : Int), .int .u8 ((p.deed d).2.nm.x6 : Int), .int .u8 ((p.deed d).2.nm.x7 : Int), .int .i64 (p.deed d).2.no, .int .i64 (p.deed d).2.h0, .int .i64 (p.deed d).2.h1, .slice A4 n4 c4], .int .i64 (p.deed d).1]) (by simp [results, Try.results16, go_sem, r0, r1, r2, r3, r4, r5, r6, r7, r8, r9, r10, r11]) rfl ⟨A4, n4, c4, rfl, ?_, ?_⟩
    · refine pown_down (base := w0.heap.size) ?_ Hw.out.size
      repeat refine ownsRow_setCell_below ?_ (by show w.heap.size + 2 < _; have := Hz.out; omega) _
      exact HO3.out
    · repeat refine Below.setCell ?_ (by show w.heap.size ≤ w.heap.size + 2; omega) _
      exact Hw4.out
end Go.Proofs.Ytjiecnoplnaahaa
