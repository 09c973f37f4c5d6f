/- The walk of the reference's Back of a purse. Conditions: bounds. -/
import Derived.Test.YtjiecnoplnaahaaPuZ
namespace Go.Proofs.Ytjiecnoplnaahaa
open Go.RowKit Go.Lib


theorem back_next {p : Pu} {d : D8} {o : Int} (h : p.next ≠ 0) : p.back d o = (p.next, pu0) := by unfold Pu.back; rw [if_neg h]
theorem back_free {p : Pu} {d : D8} {o : Int} (h : p.next = 0) (h1 : 0 ≤ placeL p.held d) (h2 : ¬ o ≤ (p.held.getD (placeL p.held d).toNat default).un) : p.back d o = p.free d 0 := by
  have hk := (placeL_yes h1).1
  obtain ⟨_, _, _, _, ⟨c5, _⟩, _⟩ := check_iff.1 (next_ok h).1
  have ha := (c5 _ (mem_getD hk)).1
  unfold Pu.back Pu.free
  rw [if_pos h, if_pos h, if_neg (by omega), if_neg (by omega), if_neg (by omega), if_neg (by omega)]
set_option maxRecDepth 100000 in
set_option maxHeartbeats 8000000 in
theorem backr_any (p : Pu) (A : Option Addr) (n c : Nat) (d : D8) (over : Int) (w : World) (hp : PuV.At p A n c w) :
    Calls Try.prog 45 #[.agg #[.int .u8 (p.nm.x0 : Int), .int .u8 (p.nm.x1 : Int), .int .u8 (p.nm.x2 : Int), .int .u8 (p.nm.x3 : Int), .int .u8 (p.nm.x4 : Int), .int .u8 (p.nm.x5 : Int), .int .u8 (p.nm.x6 : Int), .int .u8 (p.nm.x7 : Int), .int .i64 p.no, .int .i64 p.h0, .int .i64 p.h1, .slice A n c], .agg #[.int .u8 (d.x0 : Int), .int .u8 (d.x1 : Int), .int .u8 (d.x2 : Int), .int .u8 (d.x3 : Int), .int .u8 (d.x4 : Int), .int .u8 (d.x5 : Int), .int .u8 (d.x6 : Int), .int .u8 (d.x7 : Int)], .int .i64 over] w (GivesChR (p.back d over) w) := by
  have HT : Hid ((((w.alloc (.cells #[.int .u8 (p.nm.x0 : Int), .int .u8 (p.nm.x1 : Int), .int .u8 (p.nm.x2 : Int), .int .u8 (p.nm.x3 : Int), .int .u8 (p.nm.x4 : Int), .int .u8 (p.nm.x5 : Int), .int .u8 (p.nm.x6 : Int), .int .u8 (p.nm.x7 : Int), .int .i64 p.no, .int .i64 p.h0, .int .i64 p.h1, .slice A n c] 26)).alloc (.cells #[.int .u8 (d.x0 : Int), .int .u8 (d.x1 : Int), .int .u8 (d.x2 : Int), .int .u8 (d.x3 : Int), .int .u8 (d.x4 : Int), .int .u8 (d.x5 : Int), .int .u8 (d.x6 : Int), .int .u8 (d.x7 : Int)] 22)).alloc (.cells #[.int .u8 0, .int .u8 0, .int .u8 0, .int .u8 0, .int .u8 0, .int .u8 0, .int .u8 0, .int .u8 0, .int .i64 0, .int .i64 0, .int .i64 0, .slice none 0 0] 26)).heap[w.heap.size]? = some (.cells #[.int .u8 (p.nm.x0 : Int), .int .u8 (p.nm.x1 : Int), .int .u8 (p.nm.x2 : Int), .int .u8 (p.nm.x3 : Int), .int .u8 (p.nm.x4 : Int), .int .u8 (p.nm.x5 : Int), .int .u8 (p.nm.x6 : Int), .int .u8 (p.nm.x7 : Int), .int .i64 p.no, .int .i64 p.h0, .int .i64 p.h1, .slice A n c] 26 (0, 0))) := block_alloc (block_alloc (heap_alloc_new _ _) _) _
  have HB : Hid ((((w.alloc (.cells #[.int .u8 (p.nm.x0 : Int), .int .u8 (p.nm.x1 : Int), .int .u8 (p.nm.x2 : Int), .int .u8 (p.nm.x3 : Int), .int .u8 (p.nm.x4 : Int), .int .u8 (p.nm.x5 : Int), .int .u8 (p.nm.x6 : Int), .int .u8 (p.nm.x7 : Int), .int .i64 p.no, .int .i64 p.h0, .int .i64 p.h1, .slice A n c] 26)).alloc (.cells #[.int .u8 (d.x0 : Int), .int .u8 (d.x1 : Int), .int .u8 (d.x2 : Int), .int .u8 (d.x3 : Int), .int .u8 (d.x4 : Int), .int .u8 (d.x5 : Int), .int .u8 (d.x6 : Int), .int .u8 (d.x7 : Int)] 22)).alloc (.cells #[.int .u8 0, .int .u8 0, .int .u8 0, .int .u8 0, .int .u8 0, .int .u8 0, .int .u8 0, .int .u8 0, .int .i64 0, .int .i64 0, .int .i64 0, .slice none 0 0] 26)).heap[w.heap.size + 1]? = some (.cells #[.int .u8 (d.x0 : Int), .int .u8 (d.x1 : Int), .int .u8 (d.x2 : Int), .int .u8 (d.x3 : Int), .int .u8 (d.x4 : Int), .int .u8 (d.x5 : Int), .int .u8 (d.x6 : Int), .int .u8 (d.x7 : Int)] 22 (0, 0))) := block_alloc (alloc_at (by simp)) _
  have HR : Hid ((((w.alloc (.cells #[.int .u8 (p.nm.x0 : Int), .int .u8 (p.nm.x1 : Int), .int .u8 (p.nm.x2 : Int), .int .u8 (p.nm.x3 : Int), .int .u8 (p.nm.x4 : Int), .int .u8 (p.nm.x5 : Int), .int .u8 (p.nm.x6 : Int), .int .u8 (p.nm.x7 : Int), .int .i64 p.no, .int .i64 p.h0, .int .i64 p.h1, .slice A n c] 26)).alloc (.cells #[.int .u8 (d.x0 : Int), .int .u8 (d.x1 : Int), .int .u8 (d.x2 : Int), .int .u8 (d.x3 : Int), .int .u8 (d.x4 : Int), .int .u8 (d.x5 : Int), .int .u8 (d.x6 : Int), .int .u8 (d.x7 : Int)] 22)).alloc (.cells #[.int .u8 0, .int .u8 0, .int .u8 0, .int .u8 0, .int .u8 0, .int .u8 0, .int .u8 0, .int .u8 0, .int .i64 0, .int .i64 0, .int .i64 0, .slice none 0 0] 26)).heap[w.heap.size + 2]? = some (.cells #[.int .u8 0, .int .u8 0, .int .u8 0, .int .u8 0, .int .u8 0, .int .u8 0, .int .u8 0, .int .u8 0, .int .i64 0, .int .i64 0, .int .i64 0, .slice none 0 0] 26 (0, 0))) := alloc_at (by simp)
  have Hw : Hid (Below w.heap.size w (((w.alloc (.cells #[.int .u8 (p.nm.x0 : Int), .int .u8 (p.nm.x1 : Int), .int .u8 (p.nm.x2 : Int), .int .u8 (p.nm.x3 : Int), .int .u8 (p.nm.x4 : Int), .int .u8 (p.nm.x5 : Int), .int .u8 (p.nm.x6 : Int), .int .u8 (p.nm.x7 : Int), .int .i64 p.no, .int .i64 p.h0, .int .i64 p.h1, .slice A n c] 26)).alloc (.cells #[.int .u8 (d.x0 : Int), .int .u8 (d.x1 : Int), .int .u8 (d.x2 : Int), .int .u8 (d.x3 : Int), .int .u8 (d.x4 : Int), .int .u8 (d.x5 : Int), .int .u8 (d.x6 : Int), .int .u8 (d.x7 : Int)] 22)).alloc (.cells #[.int .u8 0, .int .u8 0, .int .u8 0, .int .u8 0, .int .u8 0, .int .u8 0, .int .u8 0, .int .u8 0, .int .i64 0, .int .i64 0, .int .i64 0, .slice none 0 0] 26))) := (below_two w _ _).alloc (by simp; omega) _
  have Hz : Hid ((((w.alloc (.cells #[.int .u8 (p.nm.x0 : Int), .int .u8 (p.nm.x1 : Int), .int .u8 (p.nm.x2 : Int), .int .u8 (p.nm.x3 : Int), .int .u8 (p.nm.x4 : Int), .int .u8 (p.nm.x5 : Int), .int .u8 (p.nm.x6 : Int), .int .u8 (p.nm.x7 : Int), .int .i64 p.no, .int .i64 p.h0, .int .i64 p.h1, .slice A n c] 26)).alloc (.cells #[.int .u8 (d.x0 : Int), .int .u8 (d.x1 : Int), .int .u8 (d.x2 : Int), .int .u8 (d.x3 : Int), .int .u8 (d.x4 : Int), .int .u8 (d.x5 : Int), .int .u8 (d.x6 : Int), .int .u8 (d.x7 : Int)] 22)).alloc (.cells #[.int .u8 0, .int .u8 0, .int .u8 0, .int .u8 0, .int .u8 0, .int .u8 0, .int .u8 0, .int .u8 0, .int .i64 0, .int .i64 0, .int .i64 0, .slice none 0 0] 26)).heap.size = w.heap.size + 3) := by show _ = _; simp
  have H := Lib.hid (hp.up Hw.out)
  have Hl := Lib.hid hp.rd.hlen
  clear hp
  go_enter Try.func45, Try.ntmps45
  go_wp2_with fail
  refine (nextr_any p A n c _ H.out).mono ?_
  generalize (((w.alloc (.cells #[.int .u8 (p.nm.x0 : Int), .int .u8 (p.nm.x1 : Int), .int .u8 (p.nm.x2 : Int), .int .u8 (p.nm.x3 : Int), .int .u8 (p.nm.x4 : Int), .int .u8 (p.nm.x5 : Int), .int .u8 (p.nm.x6 : Int), .int .u8 (p.nm.x7 : Int), .int .i64 p.no, .int .i64 p.h0, .int .i64 p.h1, .slice A n c] 26)).alloc (.cells #[.int .u8 (d.x0 : Int), .int .u8 (d.x1 : Int), .int .u8 (d.x2 : Int), .int .u8 (d.x3 : Int), .int .u8 (d.x4 : Int), .int .u8 (d.x5 : Int), .int .u8 (d.x6 : Int), .int .u8 (d.x7 : Int)] 22)).alloc (.cells #[.int .u8 0, .int .u8 0, .int .u8 0, .int .u8 0, .int .u8 0, .int .u8 0, .int .u8 0, .int .u8 0, .int .i64 0, .int .i64 0, .int .i64 0, .slice none 0 0] 26)) = w0 at *
  generalize hnp : p.nextP = np at *
  have Hnp := Lib.hid hnp
  clear hnp
  obtain ⟨en, q⟩ := np
  rintro e w1 ⟨A1, n1, c1, rfl, ho1, hb1⟩
  simp only at ho1
  have H2 := Lib.hid ((H.out.up hb1).up (below_one w1 (.cells #[.int .u8 (q.nm.x0 : Int), .int .u8 (q.nm.x1 : Int), .int .u8 (q.nm.x2 : Int), .int .u8 (q.nm.x3 : Int), .int .u8 (q.nm.x4 : Int), .int .u8 (q.nm.x5 : Int), .int .u8 (q.nm.x6 : Int), .int .u8 (q.nm.x7 : Int), .int .i64 q.no, .int .i64 q.h0, .int .i64 q.h1, .slice A1 n1 c1] 26)))
  have HP2 := Lib.hid (((H.out.rd.below hb1 (Nat.le_refl _)).alloc hb1.size (.cells #[.int .u8 (q.nm.x0 : Int), .int .u8 (q.nm.x1 : Int), .int .u8 (q.nm.x2 : Int), .int .u8 (q.nm.x3 : Int), .int .u8 (q.nm.x4 : Int), .int .u8 (q.nm.x5 : Int), .int .u8 (q.nm.x6 : Int), .int .u8 (q.nm.x7 : Int), .int .i64 q.no, .int .i64 q.h0, .int .i64 q.h1, .slice A1 n1 c1] 26)))
  have HT2 := Lib.hid (block_alloc (block_below HT.out hb1 (by rw [Hz.out]; omega)) (.cells #[.int .u8 (q.nm.x0 : Int), .int .u8 (q.nm.x1 : Int), .int .u8 (q.nm.x2 : Int), .int .u8 (q.nm.x3 : Int), .int .u8 (q.nm.x4 : Int), .int .u8 (q.nm.x5 : Int), .int .u8 (q.nm.x6 : Int), .int .u8 (q.nm.x7 : Int), .int .i64 q.no, .int .i64 q.h0, .int .i64 q.h1, .slice A1 n1 c1] 26))
  have HB2 := Lib.hid (block_alloc (block_below HB.out hb1 (by rw [Hz.out]; omega)) (.cells #[.int .u8 (q.nm.x0 : Int), .int .u8 (q.nm.x1 : Int), .int .u8 (q.nm.x2 : Int), .int .u8 (q.nm.x3 : Int), .int .u8 (q.nm.x4 : Int), .int .u8 (q.nm.x5 : Int), .int .u8 (q.nm.x6 : Int), .int .u8 (q.nm.x7 : Int), .int .i64 q.no, .int .i64 q.h0, .int .i64 q.h1, .slice A1 n1 c1] 26))
  have HR2 := Lib.hid (block_alloc (block_below HR.out hb1 (by rw [Hz.out]; omega)) (.cells #[.int .u8 (q.nm.x0 : Int), .int .u8 (q.nm.x1 : Int), .int .u8 (q.nm.x2 : Int), .int .u8 (q.nm.x3 : Int), .int .u8 (q.nm.x4 : Int), .int .u8 (q.nm.x5 : Int), .int .u8 (q.nm.x6 : Int), .int .u8 (q.nm.x7 : Int), .int .i64 q.no, .int .i64 q.h0, .int .i64 q.h1, .slice A1 n1 c1] 26))
  have hw2s : w0.heap.size ≤ (w1.alloc (.cells #[.int .u8 (q.nm.x0 : Int), .int .u8 (q.nm.x1 : Int), .int .u8 (q.nm.x2 : Int), .int .u8 (q.nm.x3 : Int), .int .u8 (q.nm.x4 : Int), .int .u8 (q.nm.x5 : Int), .int .u8 (q.nm.x6 : Int), .int .u8 (q.nm.x7 : Int), .int .i64 q.no, .int .i64 q.h0, .int .i64 q.h1, .slice A1 n1 c1] 26)).heap.size := by have := hb1.size; simp; omega
  have HQ2 := Lib.hid (heap_alloc_new w1 (.cells #[.int .u8 (q.nm.x0 : Int), .int .u8 (q.nm.x1 : Int), .int .u8 (q.nm.x2 : Int), .int .u8 (q.nm.x3 : Int), .int .u8 (q.nm.x4 : Int), .int .u8 (q.nm.x5 : Int), .int .u8 (q.nm.x6 : Int), .int .u8 (q.nm.x7 : Int), .int .i64 q.no, .int .i64 q.h0, .int .i64 q.h1, .slice A1 n1 c1] 26))
  have hs1 : w.heap.size + 3 ≤ w1.heap.size := by have := hb1.size; rw [Hz.out] at this; exact this
  have Hw2 := Lib.hid ((Hw.out.trans (hb1.mono Hw.out.size)).alloc (by omega) (.cells #[.int .u8 (q.nm.x0 : Int), .int .u8 (q.nm.x1 : Int), .int .u8 (q.nm.x2 : Int), .int .u8 (q.nm.x3 : Int), .int .u8 (q.nm.x4 : Int), .int .u8 (q.nm.x5 : Int), .int .u8 (q.nm.x6 : Int), .int .u8 (q.nm.x7 : Int), .int .i64 q.no, .int .i64 q.h0, .int .i64 q.h1, .slice A1 n1 c1] 26))
  have Ho2 := Lib.hid ((pown_down ho1 (show w.heap.size + 3 ≤ w0.heap.size by rw [Hz.out]; exact Nat.le_refl _)).alloc (.cells #[.int .u8 (q.nm.x0 : Int), .int .u8 (q.nm.x1 : Int), .int .u8 (q.nm.x2 : Int), .int .u8 (q.nm.x3 : Int), .int .u8 (q.nm.x4 : Int), .int .u8 (q.nm.x5 : Int), .int .u8 (q.nm.x6 : Int), .int .u8 (q.nm.x7 : Int), .int .i64 q.no, .int .i64 q.h0, .int .i64 q.h1, .slice A1 n1 c1] 26))
  clear hb1 ho1
  go_upto_region 2 with fail
  generalize (w1.alloc (.cells #[.int .u8 (q.nm.x0 : Int), .int .u8 (q.nm.x1 : Int), .int .u8 (q.nm.x2 : Int), .int .u8 (q.nm.x3 : Int), .int .u8 (q.nm.x4 : Int), .int .u8 (q.nm.x5 : Int), .int .u8 (q.nm.x6 : Int), .int .u8 (q.nm.x7 : Int), .int .i64 q.no, .int .i64 q.h0, .int .i64 q.h1, .slice A1 n1 c1] 26)) = w2 at *
  obtain ⟨z0, z1, z2, z3, z4, z5, z6, z7, z8, z9, z10, z11⟩ := PBox.all HT2.out
  obtain ⟨y0, y1, y2, y3, y4, y5, y6, y7⟩ := DBox.all HB2.out
  have r := block_cell HR2.out
  have r0 := r 0; have r1 := r 1; have r2 := r 2; have r3 := r 3; have r4 := r 4; have r5 := r 5; have r6 := r 6; have r7 := r 7; have r8 := r 8; have r9 := r 9; have r10 := r 10; have r11 := r 11
  have rf := block_free HR2.out
  simp at r0 r1 r2 r3 r4 r5 r6 r7 r8 r9 r10 r11
  clear r
  by_cases hn : p.next = 0
  · have hq : (en, q) = (0, ⟨p.nm, p.no + 1, p.h0, p.h1, p.held⟩) := by rw [← Hnp.out, nextP_yes hn]; rfl
    injection hq with hq1 hq2
    subst hq1
    subst hq2
    simp only at *
    have hck := check_iff.1 (next_ok hn).1
    obtain ⟨_, ⟨u0, u1⟩, ⟨u2, u3⟩, hl16, ⟨c5, _⟩, _⟩ := hck
    have hn16 : n ≤ 16 := by rw [← Hl.out]; exact hl16
    have C5 := Lib.hid c5
    have Hn := Lib.hid hn
    have hne1 : w.heap.size + 2 ≠ w1.heap.size := by omega
    have hne2 : w1.heap.size ≠ w.heap.size + 2 := by omega
    clear hn Hnp hl16 c5
    by_cases hpl : placeL p.held d < 0
    · have q1 : decide (placeL p.held d < 0) = true := decide_eq_true hpl
      have Hr : Hid (p.back d over = (9, pu0)) := by show _ = _; unfold Pu.back; rw [if_pos Hn.out, if_pos hpl]
      clear hpl
      go_wp2_with fail
      refine (placer_any p A n c d w2 H2.out).mono ?_
      (try rw [Hk.out])
      rintro e w3 ⟨rfl, hb3⟩
      have HA3 := Lib.hid (H2.out.up hb3)
      have hB3 := block_below HB2.out hb3 (block_lt HB2.out)
      have HP3 := Lib.hid (HP2.out.below hb3 hw2s)
      have hw3s := Nat.le_trans hw2s hb3.size
      have HT3 := Lib.hid (block_below HT2.out hb3 (block_lt HT2.out))
      have HR3 := Lib.hid (block_below HR2.out hb3 (block_lt HR2.out))
      have HQ3 := Lib.hid (block_below HQ2.out hb3 (block_lt HQ2.out))
      have Ho3 := Lib.hid (own_below Ho2.out hb3)
      have Hw3 := Lib.hid (Hw2.out.trans (hb3.mono Hw2.out.size))
      clear hb3 z0 z1 z2 z3 z4 z5 z6 z7 z8 z9 z10 z11 r0 r1 r2 r3 r4 r5 r6 r7 r8 r9 r10 r11 rf
      obtain ⟨z0, z1, z2, z3, z4, z5, z6, z7, z8, z9, z10, z11⟩ := PBox.all HT3.out
      have r := block_cell HR3.out
      have r0 := r 0; have r1 := r 1; have r2 := r 2; have r3 := r 3; have r4 := r 4; have r5 := r 5; have r6 := r 6; have r7 := r 7; have r8 := r 8; have r9 := r 9; have r10 := r 10; have r11 := r 11
      have rf := block_free HR3.out
      simp at r0 r1 r2 r3 r4 r5 r6 r7 r8 r9 r10 r11
      clear r
      go_wp2
      rw [Hr.out]
      refine bodyPost_ret (v := .tuple #[.agg #[.int .u8 0, .int .u8 0, .int .u8 0, .int .u8 0, .int .u8 0, .int .u8 0, .int .u8 0, .int .u8 0, .int .i64 0, .int .i64 0, .int .i64 0, .slice none 0 0], .int .i64 9]) (by simp [results, Try.results45, go_sem, r0, r1, r2, r3, r4, r5, r6, r7, r8, r9, r10, r11]) rfl (givesChR_no rfl ?_)
      repeat refine Below.setCell ?_ (by show w.heap.size ≤ w.heap.size + 2; omega) _
      exact Hw3.out
    · obtain ⟨k, hk⟩ : ∃ k : Nat, placeL p.held d = k := ⟨(placeL p.held d).toNat, by omega⟩
      have hkn : k < n := by have := (placeL_yes (l := p.held) (n := d) (by omega)).1; have := Hl.out; omega
      have Hk := Lib.hid hk
      have Hpl : Hid (0 ≤ placeL p.held d) := by show _ ≤ _; omega
      have q1 : decide ((k : Int) < 0) = false := decide_eq_false (by omega)
      have hk0 : (0 : Int) ≤ (k : Int) := by omega
      have hki : (k : Int) < (n : Int) := by omega
      clear hpl hk
      by_cases h2 : over ≤ (p.held.getD k default).un
      · have Hr : Hid (p.back d over = (20, pu0)) := by show _ = _; unfold Pu.back; rw [if_pos Hn.out, Hk.out, if_neg (by omega), Int.toNat_natCast, if_pos h2]
        have q2 : decide (over ≤ (p.held.getD k default).un) = true := decide_eq_true h2
        clear h2
        go_wp2_with fail
        refine (placer_any p A n c d w2 H2.out).mono ?_
        (try rw [Hk.out])
        rintro e w3 ⟨rfl, hb3⟩
        have HA3 := Lib.hid (H2.out.up hb3)
        have hB3 := block_below HB2.out hb3 (block_lt HB2.out)
        have HP3 := Lib.hid (HP2.out.below hb3 hw2s)
        have hw3s := Nat.le_trans hw2s hb3.size
        have HT3 := Lib.hid (block_below HT2.out hb3 (block_lt HT2.out))
        have HR3 := Lib.hid (block_below HR2.out hb3 (block_lt HR2.out))
        have HQ3 := Lib.hid (block_below HQ2.out hb3 (block_lt HQ2.out))
        have Ho3 := Lib.hid (own_below Ho2.out hb3)
        have Hw3 := Lib.hid (Hw2.out.trans (hb3.mono Hw2.out.size))
        clear hb3 z0 z1 z2 z3 z4 z5 z6 z7 z8 z9 z10 z11 r0 r1 r2 r3 r4 r5 r6 r7 r8 r9 r10 r11 rf
        obtain ⟨z0, z1, z2, z3, z4, z5, z6, z7, z8, z9, z10, z11⟩ := PBox.all HT3.out
        obtain ⟨b, o, rfl, hbB, x0, x1, x2, x3, x4, x5, x6, x7, x8, x9, x10⟩ := HA3.out.rd.hd hkn
        generalize p.held.getD k default = hh at *
        have r := block_cell HR3.out
        have r0 := r 0; have r1 := r 1; have r2 := r 2; have r3 := r 3; have r4 := r 4; have r5 := r 5; have r6 := r 6; have r7 := r 7; have r8 := r 8; have r9 := r 9; have r10 := r 10; have r11 := r 11
        have rf := block_free HR3.out
        simp at r0 r1 r2 r3 r4 r5 r6 r7 r8 r9 r10 r11
        clear r
        go_wp2
        rw [Hr.out]
        refine bodyPost_ret (v := .tuple #[.agg #[.int .u8 0, .int .u8 0, .int .u8 0, .int .u8 0, .int .u8 0, .int .u8 0, .int .u8 0, .int .u8 0, .int .i64 0, .int .i64 0, .int .i64 0, .slice none 0 0], .int .i64 20]) (by simp [results, Try.results45, go_sem, r0, r1, r2, r3, r4, r5, r6, r7, r8, r9, r10, r11]) rfl (givesChR_no rfl ?_)
        repeat refine Below.setCell ?_ (by show w.heap.size ≤ w.heap.size + 2; omega) _
        exact Hw3.out
      · have Hr : Hid (p.back d over = p.free d 0) := back_free Hn.out Hpl.out (by rw [Hk.out, Int.toNat_natCast]; exact h2)
        have q2 : decide (over ≤ (p.held.getD k default).un) = false := decide_eq_false h2
        clear h2
        go_wp2_with fail
        refine (placer_any p A n c d w2 H2.out).mono ?_
        (try rw [Hk.out])
        rintro e w3 ⟨rfl, hb3⟩
        have HA3 := Lib.hid (H2.out.up hb3)
        have hB3 := block_below HB2.out hb3 (block_lt HB2.out)
        have HP3 := Lib.hid (HP2.out.below hb3 hw2s)
        have hw3s := Nat.le_trans hw2s hb3.size
        have HT3 := Lib.hid (block_below HT2.out hb3 (block_lt HT2.out))
        have HR3 := Lib.hid (block_below HR2.out hb3 (block_lt HR2.out))
        have HQ3 := Lib.hid (block_below HQ2.out hb3 (block_lt HQ2.out))
        have Ho3 := Lib.hid (own_below Ho2.out hb3)
        have Hw3 := Lib.hid (Hw2.out.trans (hb3.mono Hw2.out.size))
        clear hb3 z0 z1 z2 z3 z4 z5 z6 z7 z8 z9 z10 z11 r0 r1 r2 r3 r4 r5 r6 r7 r8 r9 r10 r11 rf
        obtain ⟨z0, z1, z2, z3, z4, z5, z6, z7, z8, z9, z10, z11⟩ := PBox.all HT3.out
        have HB3 := Lib.hid hB3
        clear hB3
        obtain ⟨y0, y1, y2, y3, y4, y5, y6, y7⟩ := DBox.all HB3.out
        obtain ⟨b, o, rfl, hbB, x0, x1, x2, x3, x4, x5, x6, x7, x8, x9, x10⟩ := HA3.out.rd.hd hkn
        generalize p.held.getD k default = hh at *
        go_wp2_with fail
        refine (freer_any p _ n c d 0 w3 HA3.out).mono ?_
        rw [← Hr.out]
        rintro e w4 ⟨A4, n4, c4, rfl, ho4, hb4⟩
        have HR4 := Lib.hid (block_below HR3.out hb4 (block_lt HR3.out))
        have Hw4 := Lib.hid (Hw3.out.trans (hb4.mono Hw3.out.size))
        have Ho4 := Lib.hid ho4
        have hs3 : w1.heap.size < w3.heap.size := block_lt HQ3.out
        clear hb4 ho4
        have r := block_cell HR4.out
        have r0 := r 0; have r1 := r 1; have r2 := r 2; have r3 := r 3; have r4 := r 4; have r5 := r 5; have r6 := r 6; have r7 := r 7; have r8 := r 8; have r9 := r 9; have r10 := r 10; have r11 := r 11
        have rf := block_free HR4.out
        simp at r0 r1 r2 r3 r4 r5 r6 r7 r8 r9 r10 r11
        clear r
        go_wp2
        refine bodyPost_ret (v := .tuple #[.agg #[.int .u8 ((p.back d over).2.nm.x0 : Int), .int .u8 ((p.back d over).2.nm.x1 : Int), .int .u8 ((p.back d over).2.nm.x2 : Int), .int .u8 ((p.back d over).2.nm.x3 : Int), .int .u8 ((p.back d over).2.nm.x4 : Int), .int .u8 ((p.back d over).2.nm.x5 : Int), .int .u8 ((p.back d over).2.nm.x6 : Int), .int .u8 ((p.back d over).2.nm.x7 : Int), .int .i64 (p.back d over).2.no, .int .i64 (p.back d over).2.h0, .int .i64 (p.back d over).2.h1, .slice A4 n4 c4], .int .i64 (p.back d over).1]) (by simp [results, Try.results45, go_sem, r0, r1, r2, r3, r4, r5, r6, r7, r8, r9, r10, r11]) rfl ⟨A4, n4, c4, rfl, ?_, ?_⟩
        · refine pown_down (base := w3.heap.size) ?_ (by omega)
          repeat (first | refine ownsRow_setCell_below ?_ (by show w.heap.size + 2 < _; omega) _)
          exact Ho4.out
        · repeat refine Below.setCell ?_ (by show w.heap.size ≤ w.heap.size + 2; omega) _
          exact Hw4.out
  · have hq : (en, q) = (p.next, pu0) := by rw [← Hnp.out, nextP_no hn]
    injection hq with hq1 hq2
    subst hq1
    subst hq2
    have b1 : (p.next != 0) = true := by simpa using hn
    have Hr := Lib.hid (back_next (d := d) (o := over) hn)
    clear hn Hnp
    go_wp2
    rw [Hr.out]
    refine bodyPost_ret (v := .tuple #[.agg #[.int .u8 0, .int .u8 0, .int .u8 0, .int .u8 0, .int .u8 0, .int .u8 0, .int .u8 0, .int .u8 0, .int .i64 0, .int .i64 0, .int .i64 0, .slice none 0 0], .int .i64 p.next]) (by simp [results, Try.results45, go_sem, r0, r1, r2, r3, r4, r5, r6, r7, r8, r9, r10, r11]) rfl (givesChR_no rfl ?_)
    repeat refine Below.setCell ?_ (by show w.heap.size ≤ w.heap.size + 2; omega) _
    exact Hw2.out
end Go.Proofs.Ytjiecnoplnaahaa
