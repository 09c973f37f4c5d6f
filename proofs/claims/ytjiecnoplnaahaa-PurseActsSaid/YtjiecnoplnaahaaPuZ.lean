/- The walk of the reference's Free of a purse. Conditions: bounds. -/
import Derived.Test.YtjiecnoplnaahaaPuY
import Derived.Test.YtjiecnoplnaahaaPuM
import Derived.RegionTactic
import Derived.Deep.RegionHeld3
import Derived.IntWalk
namespace Go.Proofs.Ytjiecnoplnaahaa
open Go.RowKit Go.Lib


theorem slot11 {p : Pu} {A : Option Addr} {n c : Nat} {w : World} {b : Nat} {T : TypeId} (h : w.heap[b]? = some (.cells #[.int .u8 (p.nm.x0 : Int), .int .u8 (p.nm.x1 : Int), .int .u8 (p.nm.x2 : Int), .int .u8 (p.nm.x3 : Int), .int .u8 (p.nm.x4 : Int), .int .u8 (p.nm.x5 : Int), .int .u8 (p.nm.x6 : Int), .int .u8 (p.nm.x7 : Int), .int .i64 p.no, .int .i64 p.h0, .int .i64 p.h1, .slice A n c] T (0, 0))) : w.cell? ⟨b, 11, none⟩ = some (.slice A n c) := block_cell h 11
theorem slot11s {p : Pu} {A : Option Addr} {n c : Nat} {w : World} {b g : Nat} {T : TypeId} (h : w.heap[b]? = some (.cells #[.int .u8 (p.nm.x0 : Int), .int .u8 (p.nm.x1 : Int), .int .u8 (p.nm.x2 : Int), .int .u8 (p.nm.x3 : Int), .int .u8 (p.nm.x4 : Int), .int .u8 (p.nm.x5 : Int), .int .u8 (p.nm.x6 : Int), .int .u8 (p.nm.x7 : Int), .int .i64 p.no, .int .i64 p.h0, .int .i64 p.h1, .slice A n c] T (0, 0))) (hne : b ≠ g) (v : Value) : (w.setCell ⟨g, 11, none⟩ v).cell? ⟨b, 11, none⟩ = some (.slice A n c) :=
  slot11 (p := p) (((pgrown_set (w := w) g 11 v).block b (block_lt h) (by simpa using hne)).trans h)
theorem free_next {p : Pu} {d : D8} {o : Int} (h : p.next ≠ 0) : p.free d o = (p.next, pu0) := by unfold Pu.free; rw [if_neg h]
set_option maxRecDepth 100000 in
set_option maxHeartbeats 8000000 in
theorem freer_any (p : Pu) (A : Option Addr) (n c : Nat) (d : D8) (over : Int) (w : World) (hp : PuV.At p A n c w) :
    Calls Try.prog 44 #[.agg #[.int .u8 (p.nm.x0 : Int), .int .u8 (p.nm.x1 : Int), .int .u8 (p.nm.x2 : Int), .int .u8 (p.nm.x3 : Int), .int .u8 (p.nm.x4 : Int), .int .u8 (p.nm.x5 : Int), .int .u8 (p.nm.x6 : Int), .int .u8 (p.nm.x7 : Int), .int .i64 p.no, .int .i64 p.h0, .int .i64 p.h1, .slice A n c], .agg #[.int .u8 (d.x0 : Int), .int .u8 (d.x1 : Int), .int .u8 (d.x2 : Int), .int .u8 (d.x3 : Int), .int .u8 (d.x4 : Int), .int .u8 (d.x5 : Int), .int .u8 (d.x6 : Int), .int .u8 (d.x7 : Int)], .int .i64 over] w (GivesChR (p.free d over) w) := by
  obtain ⟨i0, hi, hz0, hz1, hz2⟩ := info_parts info_HeldR
  have HI := Lib.hid (And.intro hi (And.intro hz0 (And.intro hz1 hz2))); clear hi hz0 hz1 hz2
  have HT : Hid ((((w.alloc (.cells #[.int .u8 (p.nm.x0 : Int), .int .u8 (p.nm.x1 : Int), .int .u8 (p.nm.x2 : Int), .int .u8 (p.nm.x3 : Int), .int .u8 (p.nm.x4 : Int), .int .u8 (p.nm.x5 : Int), .int .u8 (p.nm.x6 : Int), .int .u8 (p.nm.x7 : Int), .int .i64 p.no, .int .i64 p.h0, .int .i64 p.h1, .slice A n c] 26)).alloc (.cells #[.int .u8 (d.x0 : Int), .int .u8 (d.x1 : Int), .int .u8 (d.x2 : Int), .int .u8 (d.x3 : Int), .int .u8 (d.x4 : Int), .int .u8 (d.x5 : Int), .int .u8 (d.x6 : Int), .int .u8 (d.x7 : Int)] 22)).alloc (.cells #[.int .u8 0, .int .u8 0, .int .u8 0, .int .u8 0, .int .u8 0, .int .u8 0, .int .u8 0, .int .u8 0, .int .i64 0, .int .i64 0, .int .i64 0, .slice none 0 0] 26)).heap[w.heap.size]? = some (.cells #[.int .u8 (p.nm.x0 : Int), .int .u8 (p.nm.x1 : Int), .int .u8 (p.nm.x2 : Int), .int .u8 (p.nm.x3 : Int), .int .u8 (p.nm.x4 : Int), .int .u8 (p.nm.x5 : Int), .int .u8 (p.nm.x6 : Int), .int .u8 (p.nm.x7 : Int), .int .i64 p.no, .int .i64 p.h0, .int .i64 p.h1, .slice A n c] 26 (0, 0))) := block_alloc (block_alloc (heap_alloc_new _ _) _) _
  have HB : Hid ((((w.alloc (.cells #[.int .u8 (p.nm.x0 : Int), .int .u8 (p.nm.x1 : Int), .int .u8 (p.nm.x2 : Int), .int .u8 (p.nm.x3 : Int), .int .u8 (p.nm.x4 : Int), .int .u8 (p.nm.x5 : Int), .int .u8 (p.nm.x6 : Int), .int .u8 (p.nm.x7 : Int), .int .i64 p.no, .int .i64 p.h0, .int .i64 p.h1, .slice A n c] 26)).alloc (.cells #[.int .u8 (d.x0 : Int), .int .u8 (d.x1 : Int), .int .u8 (d.x2 : Int), .int .u8 (d.x3 : Int), .int .u8 (d.x4 : Int), .int .u8 (d.x5 : Int), .int .u8 (d.x6 : Int), .int .u8 (d.x7 : Int)] 22)).alloc (.cells #[.int .u8 0, .int .u8 0, .int .u8 0, .int .u8 0, .int .u8 0, .int .u8 0, .int .u8 0, .int .u8 0, .int .i64 0, .int .i64 0, .int .i64 0, .slice none 0 0] 26)).heap[w.heap.size + 1]? = some (.cells #[.int .u8 (d.x0 : Int), .int .u8 (d.x1 : Int), .int .u8 (d.x2 : Int), .int .u8 (d.x3 : Int), .int .u8 (d.x4 : Int), .int .u8 (d.x5 : Int), .int .u8 (d.x6 : Int), .int .u8 (d.x7 : Int)] 22 (0, 0))) := block_alloc (alloc_at (by simp)) _
  have HR : Hid ((((w.alloc (.cells #[.int .u8 (p.nm.x0 : Int), .int .u8 (p.nm.x1 : Int), .int .u8 (p.nm.x2 : Int), .int .u8 (p.nm.x3 : Int), .int .u8 (p.nm.x4 : Int), .int .u8 (p.nm.x5 : Int), .int .u8 (p.nm.x6 : Int), .int .u8 (p.nm.x7 : Int), .int .i64 p.no, .int .i64 p.h0, .int .i64 p.h1, .slice A n c] 26)).alloc (.cells #[.int .u8 (d.x0 : Int), .int .u8 (d.x1 : Int), .int .u8 (d.x2 : Int), .int .u8 (d.x3 : Int), .int .u8 (d.x4 : Int), .int .u8 (d.x5 : Int), .int .u8 (d.x6 : Int), .int .u8 (d.x7 : Int)] 22)).alloc (.cells #[.int .u8 0, .int .u8 0, .int .u8 0, .int .u8 0, .int .u8 0, .int .u8 0, .int .u8 0, .int .u8 0, .int .i64 0, .int .i64 0, .int .i64 0, .slice none 0 0] 26)).heap[w.heap.size + 2]? = some (.cells #[.int .u8 0, .int .u8 0, .int .u8 0, .int .u8 0, .int .u8 0, .int .u8 0, .int .u8 0, .int .u8 0, .int .i64 0, .int .i64 0, .int .i64 0, .slice none 0 0] 26 (0, 0))) := alloc_at (by simp)
  have Hw : Hid (Below w.heap.size w (((w.alloc (.cells #[.int .u8 (p.nm.x0 : Int), .int .u8 (p.nm.x1 : Int), .int .u8 (p.nm.x2 : Int), .int .u8 (p.nm.x3 : Int), .int .u8 (p.nm.x4 : Int), .int .u8 (p.nm.x5 : Int), .int .u8 (p.nm.x6 : Int), .int .u8 (p.nm.x7 : Int), .int .i64 p.no, .int .i64 p.h0, .int .i64 p.h1, .slice A n c] 26)).alloc (.cells #[.int .u8 (d.x0 : Int), .int .u8 (d.x1 : Int), .int .u8 (d.x2 : Int), .int .u8 (d.x3 : Int), .int .u8 (d.x4 : Int), .int .u8 (d.x5 : Int), .int .u8 (d.x6 : Int), .int .u8 (d.x7 : Int)] 22)).alloc (.cells #[.int .u8 0, .int .u8 0, .int .u8 0, .int .u8 0, .int .u8 0, .int .u8 0, .int .u8 0, .int .u8 0, .int .i64 0, .int .i64 0, .int .i64 0, .slice none 0 0] 26))) := (below_two w _ _).alloc (by simp; omega) _
  have Hz : Hid ((((w.alloc (.cells #[.int .u8 (p.nm.x0 : Int), .int .u8 (p.nm.x1 : Int), .int .u8 (p.nm.x2 : Int), .int .u8 (p.nm.x3 : Int), .int .u8 (p.nm.x4 : Int), .int .u8 (p.nm.x5 : Int), .int .u8 (p.nm.x6 : Int), .int .u8 (p.nm.x7 : Int), .int .i64 p.no, .int .i64 p.h0, .int .i64 p.h1, .slice A n c] 26)).alloc (.cells #[.int .u8 (d.x0 : Int), .int .u8 (d.x1 : Int), .int .u8 (d.x2 : Int), .int .u8 (d.x3 : Int), .int .u8 (d.x4 : Int), .int .u8 (d.x5 : Int), .int .u8 (d.x6 : Int), .int .u8 (d.x7 : Int)] 22)).alloc (.cells #[.int .u8 0, .int .u8 0, .int .u8 0, .int .u8 0, .int .u8 0, .int .u8 0, .int .u8 0, .int .u8 0, .int .i64 0, .int .i64 0, .int .i64 0, .slice none 0 0] 26)).heap.size = w.heap.size + 3) := by show _ = _; simp
  have H := Lib.hid (hp.up Hw.out)
  have Hl := Lib.hid hp.rd.hlen
  clear hp
  go_enter Try.func44, Try.ntmps44
  go_wp2_with fail
  refine (nextr_any p A n c _ H.out).mono ?_
  generalize (((w.alloc (.cells #[.int .u8 (p.nm.x0 : Int), .int .u8 (p.nm.x1 : Int), .int .u8 (p.nm.x2 : Int), .int .u8 (p.nm.x3 : Int), .int .u8 (p.nm.x4 : Int), .int .u8 (p.nm.x5 : Int), .int .u8 (p.nm.x6 : Int), .int .u8 (p.nm.x7 : Int), .int .i64 p.no, .int .i64 p.h0, .int .i64 p.h1, .slice A n c] 26)).alloc (.cells #[.int .u8 (d.x0 : Int), .int .u8 (d.x1 : Int), .int .u8 (d.x2 : Int), .int .u8 (d.x3 : Int), .int .u8 (d.x4 : Int), .int .u8 (d.x5 : Int), .int .u8 (d.x6 : Int), .int .u8 (d.x7 : Int)] 22)).alloc (.cells #[.int .u8 0, .int .u8 0, .int .u8 0, .int .u8 0, .int .u8 0, .int .u8 0, .int .u8 0, .int .u8 0, .int .i64 0, .int .i64 0, .int .i64 0, .slice none 0 0] 26)) = w0 at *
  generalize hnp : p.nextP = np at *
  have Hnp := Lib.hid hnp
  clear hnp
  obtain ⟨en, q⟩ := np
  rintro e w1 ⟨A1, n1, c1, rfl, ho1, hb1⟩
  simp only at ho1
  have H2 := Lib.hid ((H.out.up hb1).up (below_one w1 (.cells #[.int .u8 (q.nm.x0 : Int), .int .u8 (q.nm.x1 : Int), .int .u8 (q.nm.x2 : Int), .int .u8 (q.nm.x3 : Int), .int .u8 (q.nm.x4 : Int), .int .u8 (q.nm.x5 : Int), .int .u8 (q.nm.x6 : Int), .int .u8 (q.nm.x7 : Int), .int .i64 q.no, .int .i64 q.h0, .int .i64 q.h1, .slice A1 n1 c1] 26)))
  have HP2 := Lib.hid (((H.out.rd.below hb1 (Nat.le_refl _)).alloc hb1.size (.cells #[.int .u8 (q.nm.x0 : Int), .int .u8 (q.nm.x1 : Int), .int .u8 (q.nm.x2 : Int), .int .u8 (q.nm.x3 : Int), .int .u8 (q.nm.x4 : Int), .int .u8 (q.nm.x5 : Int), .int .u8 (q.nm.x6 : Int), .int .u8 (q.nm.x7 : Int), .int .i64 q.no, .int .i64 q.h0, .int .i64 q.h1, .slice A1 n1 c1] 26)))
  have HT2 := Lib.hid (block_alloc (block_below HT.out hb1 (by rw [Hz.out]; omega)) (.cells #[.int .u8 (q.nm.x0 : Int), .int .u8 (q.nm.x1 : Int), .int .u8 (q.nm.x2 : Int), .int .u8 (q.nm.x3 : Int), .int .u8 (q.nm.x4 : Int), .int .u8 (q.nm.x5 : Int), .int .u8 (q.nm.x6 : Int), .int .u8 (q.nm.x7 : Int), .int .i64 q.no, .int .i64 q.h0, .int .i64 q.h1, .slice A1 n1 c1] 26))
  have HB2 := Lib.hid (block_alloc (block_below HB.out hb1 (by rw [Hz.out]; omega)) (.cells #[.int .u8 (q.nm.x0 : Int), .int .u8 (q.nm.x1 : Int), .int .u8 (q.nm.x2 : Int), .int .u8 (q.nm.x3 : Int), .int .u8 (q.nm.x4 : Int), .int .u8 (q.nm.x5 : Int), .int .u8 (q.nm.x6 : Int), .int .u8 (q.nm.x7 : Int), .int .i64 q.no, .int .i64 q.h0, .int .i64 q.h1, .slice A1 n1 c1] 26))
  have HR2 := Lib.hid (block_alloc (block_below HR.out hb1 (by rw [Hz.out]; omega)) (.cells #[.int .u8 (q.nm.x0 : Int), .int .u8 (q.nm.x1 : Int), .int .u8 (q.nm.x2 : Int), .int .u8 (q.nm.x3 : Int), .int .u8 (q.nm.x4 : Int), .int .u8 (q.nm.x5 : Int), .int .u8 (q.nm.x6 : Int), .int .u8 (q.nm.x7 : Int), .int .i64 q.no, .int .i64 q.h0, .int .i64 q.h1, .slice A1 n1 c1] 26))
  have hw2s : w0.heap.size ≤ (w1.alloc (.cells #[.int .u8 (q.nm.x0 : Int), .int .u8 (q.nm.x1 : Int), .int .u8 (q.nm.x2 : Int), .int .u8 (q.nm.x3 : Int), .int .u8 (q.nm.x4 : Int), .int .u8 (q.nm.x5 : Int), .int .u8 (q.nm.x6 : Int), .int .u8 (q.nm.x7 : Int), .int .i64 q.no, .int .i64 q.h0, .int .i64 q.h1, .slice A1 n1 c1] 26)).heap.size := by have := hb1.size; simp; omega
  have HQ2 := Lib.hid (heap_alloc_new w1 (.cells #[.int .u8 (q.nm.x0 : Int), .int .u8 (q.nm.x1 : Int), .int .u8 (q.nm.x2 : Int), .int .u8 (q.nm.x3 : Int), .int .u8 (q.nm.x4 : Int), .int .u8 (q.nm.x5 : Int), .int .u8 (q.nm.x6 : Int), .int .u8 (q.nm.x7 : Int), .int .i64 q.no, .int .i64 q.h0, .int .i64 q.h1, .slice A1 n1 c1] 26))
  have hs1 : w.heap.size + 3 ≤ w1.heap.size := by have := hb1.size; rw [Hz.out] at this; exact this
  have Hw2 := Lib.hid ((Hw.out.trans (hb1.mono Hw.out.size)).alloc (by omega) (.cells #[.int .u8 (q.nm.x0 : Int), .int .u8 (q.nm.x1 : Int), .int .u8 (q.nm.x2 : Int), .int .u8 (q.nm.x3 : Int), .int .u8 (q.nm.x4 : Int), .int .u8 (q.nm.x5 : Int), .int .u8 (q.nm.x6 : Int), .int .u8 (q.nm.x7 : Int), .int .i64 q.no, .int .i64 q.h0, .int .i64 q.h1, .slice A1 n1 c1] 26))
  have Ho2 := Lib.hid ((pown_down ho1 (show w.heap.size + 3 ≤ w0.heap.size by rw [Hz.out]; exact Nat.le_refl _)).alloc (.cells #[.int .u8 (q.nm.x0 : Int), .int .u8 (q.nm.x1 : Int), .int .u8 (q.nm.x2 : Int), .int .u8 (q.nm.x3 : Int), .int .u8 (q.nm.x4 : Int), .int .u8 (q.nm.x5 : Int), .int .u8 (q.nm.x6 : Int), .int .u8 (q.nm.x7 : Int), .int .i64 q.no, .int .i64 q.h0, .int .i64 q.h1, .slice A1 n1 c1] 26))
  clear hb1 ho1
  go_upto_region 2 with fail
  generalize (w1.alloc (.cells #[.int .u8 (q.nm.x0 : Int), .int .u8 (q.nm.x1 : Int), .int .u8 (q.nm.x2 : Int), .int .u8 (q.nm.x3 : Int), .int .u8 (q.nm.x4 : Int), .int .u8 (q.nm.x5 : Int), .int .u8 (q.nm.x6 : Int), .int .u8 (q.nm.x7 : Int), .int .i64 q.no, .int .i64 q.h0, .int .i64 q.h1, .slice A1 n1 c1] 26)) = w2 at *
  obtain ⟨z0, z1, z2, z3, z4, z5, z6, z7, z8, z9, z10, z11⟩ := PBox.all HT2.out
  obtain ⟨y0, y1, y2, y3, y4, y5, y6, y7⟩ := DBox.all HB2.out
  have r := block_cell HR2.out
  have r0 := r 0; have r1 := r 1; have r2 := r 2; have r3 := r 3; have r4 := r 4; have r5 := r 5; have r6 := r 6; have r7 := r 7; have r8 := r 8; have r9 := r 9; have r10 := r 10; have r11 := r 11
  have rf := block_free HR2.out
  simp at r0 r1 r2 r3 r4 r5 r6 r7 r8 r9 r10 r11
  clear r
  by_cases hn : p.next = 0
  · have hq : (en, q) = (0, ⟨p.nm, p.no + 1, p.h0, p.h1, p.held⟩) := by rw [← Hnp.out, nextP_yes hn]; rfl
    injection hq with hq1 hq2
    subst hq1
    subst hq2
    simp only at *
    have hck := check_iff.1 (next_ok hn).1
    obtain ⟨_, ⟨u0, u1⟩, ⟨u2, u3⟩, hl16, ⟨c5, _⟩, _⟩ := hck
    have hn16 : n ≤ 16 := by rw [← Hl.out]; exact hl16
    have C5 := Lib.hid c5
    have Hn := Lib.hid hn
    have hne1 : w.heap.size + 2 ≠ w1.heap.size := by omega
    have hne2 : w1.heap.size ≠ w.heap.size + 2 := by omega
    clear hn Hnp hl16 c5
    by_cases hpl : placeL p.held d < 0
    · have q1 : decide (placeL p.held d < 0) = true := decide_eq_true hpl
      have Hr : Hid (p.free d over = (9, pu0)) := by show _ = _; unfold Pu.free; rw [if_pos Hn.out, if_pos hpl]
      clear hpl
      go_wp2_with fail
      refine (placer_any p A n c d w2 H2.out).mono ?_
      (try rw [Hk.out])
      rintro e w3 ⟨rfl, hb3⟩
      have HA3 := Lib.hid (H2.out.up hb3)
      have HP3 := Lib.hid (HP2.out.below hb3 hw2s)
      have hw3s := Nat.le_trans hw2s hb3.size
      have HT3 := Lib.hid (block_below HT2.out hb3 (block_lt HT2.out))
      have HR3 := Lib.hid (block_below HR2.out hb3 (block_lt HR2.out))
      have HQ3 := Lib.hid (block_below HQ2.out hb3 (block_lt HQ2.out))
      have Ho3 := Lib.hid (own_below Ho2.out hb3)
      have Hw3 := Lib.hid (Hw2.out.trans (hb3.mono Hw2.out.size))
      clear hb3 z0 z1 z2 z3 z4 z5 z6 z7 z8 z9 z10 z11 y0 y1 y2 y3 y4 y5 y6 y7 r0 r1 r2 r3 r4 r5 r6 r7 r8 r9 r10 r11 rf
      obtain ⟨z0, z1, z2, z3, z4, z5, z6, z7, z8, z9, z10, z11⟩ := PBox.all HT3.out
      have r := block_cell HR3.out
      have r0 := r 0; have r1 := r 1; have r2 := r 2; have r3 := r 3; have r4 := r 4; have r5 := r 5; have r6 := r 6; have r7 := r 7; have r8 := r 8; have r9 := r 9; have r10 := r 10; have r11 := r 11
      have rf := block_free HR3.out
      simp at r0 r1 r2 r3 r4 r5 r6 r7 r8 r9 r10 r11
      clear r
      go_wp2
      rw [Hr.out]
      refine bodyPost_ret (v := .tuple #[.agg #[.int .u8 0, .int .u8 0, .int .u8 0, .int .u8 0, .int .u8 0, .int .u8 0, .int .u8 0, .int .u8 0, .int .i64 0, .int .i64 0, .int .i64 0, .slice none 0 0], .int .i64 9]) (by simp [results, Try.results44, go_sem, r0, r1, r2, r3, r4, r5, r6, r7, r8, r9, r10, r11]) rfl (givesChR_no rfl ?_)
      repeat refine Below.setCell ?_ (by show w.heap.size ≤ w.heap.size + 2; omega) _
      exact Hw3.out
    · obtain ⟨k, hk⟩ : ∃ k : Nat, placeL p.held d = k := ⟨(placeL p.held d).toNat, by omega⟩
      have hkn : k < n := by have := (placeL_yes (l := p.held) (n := d) (by omega)).1; have := Hl.out; omega
      have Hk := Lib.hid hk
      have q1 : decide ((k : Int) < 0) = false := decide_eq_false (by omega)
      have Hok := Lib.hid (C5.out _ (mem_getD (show k < p.held.length by have := Hl.out; omega)))
      clear hpl hk
      by_cases h2 : over < 0 ∨ (p.held.getD k default).am < over
      · have Hr : Hid (p.free d over = (2, pu0)) := by show _ = _; unfold Pu.free; rw [if_pos Hn.out, Hk.out, if_neg (by omega), Int.toNat_natCast, if_pos h2]
        go_wp2_with fail
        refine (placer_any p A n c d w2 H2.out).mono ?_
        (try rw [Hk.out])
        rintro e w3 ⟨rfl, hb3⟩
        have HA3 := Lib.hid (H2.out.up hb3)
        have HP3 := Lib.hid (HP2.out.below hb3 hw2s)
        have hw3s := Nat.le_trans hw2s hb3.size
        have HT3 := Lib.hid (block_below HT2.out hb3 (block_lt HT2.out))
        have HR3 := Lib.hid (block_below HR2.out hb3 (block_lt HR2.out))
        have HQ3 := Lib.hid (block_below HQ2.out hb3 (block_lt HQ2.out))
        have Ho3 := Lib.hid (own_below Ho2.out hb3)
        have Hw3 := Lib.hid (Hw2.out.trans (hb3.mono Hw2.out.size))
        clear hb3 z0 z1 z2 z3 z4 z5 z6 z7 z8 z9 z10 z11 y0 y1 y2 y3 y4 y5 y6 y7 r0 r1 r2 r3 r4 r5 r6 r7 r8 r9 r10 r11 rf
        obtain ⟨z0, z1, z2, z3, z4, z5, z6, z7, z8, z9, z10, z11⟩ := PBox.all HT3.out
        have hk0 : (0 : Int) ≤ (k : Int) := by omega
        have hki : (k : Int) < (n : Int) := by omega
        have Hxx := HA3.out.rd.hd hkn
        obtain ⟨b, o, rfl, hbB, x0, x1, x2, x3, x4, x5, x6, x7, x8, x9, x10⟩ := Hxx
        generalize hgen : p.held.getD k default = hh at *
        have Hgen := Lib.hid hgen
        clear hgen
        have HA4 := Lib.hid (HA3.out.up (below_one w3 (.cells #[.int .u8 (hh.nm.x0 : Int), .int .u8 (hh.nm.x1 : Int), .int .u8 (hh.nm.x2 : Int), .int .u8 (hh.nm.x3 : Int), .int .u8 (hh.nm.x4 : Int), .int .u8 (hh.nm.x5 : Int), .int .u8 (hh.nm.x6 : Int), .int .u8 (hh.nm.x7 : Int), .int .i64 hh.am, .int .i64 hh.fr, .int .i64 hh.un] 60)))
        have HP4 := Lib.hid (HP3.out.alloc hw3s (.cells #[.int .u8 (hh.nm.x0 : Int), .int .u8 (hh.nm.x1 : Int), .int .u8 (hh.nm.x2 : Int), .int .u8 (hh.nm.x3 : Int), .int .u8 (hh.nm.x4 : Int), .int .u8 (hh.nm.x5 : Int), .int .u8 (hh.nm.x6 : Int), .int .u8 (hh.nm.x7 : Int), .int .i64 hh.am, .int .i64 hh.fr, .int .i64 hh.un] 60))
        have HT4 := Lib.hid (block_alloc HT3.out (.cells #[.int .u8 (hh.nm.x0 : Int), .int .u8 (hh.nm.x1 : Int), .int .u8 (hh.nm.x2 : Int), .int .u8 (hh.nm.x3 : Int), .int .u8 (hh.nm.x4 : Int), .int .u8 (hh.nm.x5 : Int), .int .u8 (hh.nm.x6 : Int), .int .u8 (hh.nm.x7 : Int), .int .i64 hh.am, .int .i64 hh.fr, .int .i64 hh.un] 60))
        have HR4 := Lib.hid (block_alloc HR3.out (.cells #[.int .u8 (hh.nm.x0 : Int), .int .u8 (hh.nm.x1 : Int), .int .u8 (hh.nm.x2 : Int), .int .u8 (hh.nm.x3 : Int), .int .u8 (hh.nm.x4 : Int), .int .u8 (hh.nm.x5 : Int), .int .u8 (hh.nm.x6 : Int), .int .u8 (hh.nm.x7 : Int), .int .i64 hh.am, .int .i64 hh.fr, .int .i64 hh.un] 60))
        have HQ4 := Lib.hid (block_alloc HQ3.out (.cells #[.int .u8 (hh.nm.x0 : Int), .int .u8 (hh.nm.x1 : Int), .int .u8 (hh.nm.x2 : Int), .int .u8 (hh.nm.x3 : Int), .int .u8 (hh.nm.x4 : Int), .int .u8 (hh.nm.x5 : Int), .int .u8 (hh.nm.x6 : Int), .int .u8 (hh.nm.x7 : Int), .int .i64 hh.am, .int .i64 hh.fr, .int .i64 hh.un] 60))
        have HH4 := Lib.hid (heap_alloc_new w3 (.cells #[.int .u8 (hh.nm.x0 : Int), .int .u8 (hh.nm.x1 : Int), .int .u8 (hh.nm.x2 : Int), .int .u8 (hh.nm.x3 : Int), .int .u8 (hh.nm.x4 : Int), .int .u8 (hh.nm.x5 : Int), .int .u8 (hh.nm.x6 : Int), .int .u8 (hh.nm.x7 : Int), .int .i64 hh.am, .int .i64 hh.fr, .int .i64 hh.un] 60))
        have Ho4 := Lib.hid (Ho3.out.alloc (.cells #[.int .u8 (hh.nm.x0 : Int), .int .u8 (hh.nm.x1 : Int), .int .u8 (hh.nm.x2 : Int), .int .u8 (hh.nm.x3 : Int), .int .u8 (hh.nm.x4 : Int), .int .u8 (hh.nm.x5 : Int), .int .u8 (hh.nm.x6 : Int), .int .u8 (hh.nm.x7 : Int), .int .i64 hh.am, .int .i64 hh.fr, .int .i64 hh.un] 60))
        have Hw4 := Lib.hid (Hw3.out.alloc Hw3.out.size (.cells #[.int .u8 (hh.nm.x0 : Int), .int .u8 (hh.nm.x1 : Int), .int .u8 (hh.nm.x2 : Int), .int .u8 (hh.nm.x3 : Int), .int .u8 (hh.nm.x4 : Int), .int .u8 (hh.nm.x5 : Int), .int .u8 (hh.nm.x6 : Int), .int .u8 (hh.nm.x7 : Int), .int .i64 hh.am, .int .i64 hh.fr, .int .i64 hh.un] 60))
        have hlt3 : w1.heap.size < w3.heap.size := block_lt HQ3.out
        go_upto_region 8 with fail
        clear x0 x1 x2 x3 x4 x5 x6 x7 x8 x9 x10 z0 z1 z2 z3 z4 z5 z6 z7 z8 z9 z10 z11
        generalize (w3.alloc (.cells #[.int .u8 (hh.nm.x0 : Int), .int .u8 (hh.nm.x1 : Int), .int .u8 (hh.nm.x2 : Int), .int .u8 (hh.nm.x3 : Int), .int .u8 (hh.nm.x4 : Int), .int .u8 (hh.nm.x5 : Int), .int .u8 (hh.nm.x6 : Int), .int .u8 (hh.nm.x7 : Int), .int .i64 hh.am, .int .i64 hh.fr, .int .i64 hh.un] 60)) = w4 at *
        obtain ⟨x0, x1, x2, x3, x4, x5, x6, x7, x8, x9, x10⟩ := HBox.all (h := hh) HH4.out
        have r := block_cell HR4.out
        have r0 := r 0; have r1 := r 1; have r2 := r 2; have r3 := r 3; have r4 := r 4; have r5 := r 5; have r6 := r 6; have r7 := r 7; have r8 := r 8; have r9 := r 9; have r10 := r 10; have r11 := r 11
        have rf := block_free HR4.out
        simp at r0 r1 r2 r3 r4 r5 r6 r7 r8 r9 r10 r11
        clear r
        rcases h2 with h2 | h2
        · have q2 : decide (over < 0) = true := decide_eq_true h2
          clear h2
          go_wp2
          rw [Hr.out]
          refine bodyPost_ret (v := .tuple #[.agg #[.int .u8 0, .int .u8 0, .int .u8 0, .int .u8 0, .int .u8 0, .int .u8 0, .int .u8 0, .int .u8 0, .int .i64 0, .int .i64 0, .int .i64 0, .slice none 0 0], .int .i64 2]) (by simp [results, Try.results44, go_sem, r0, r1, r2, r3, r4, r5, r6, r7, r8, r9, r10, r11]) rfl (givesChR_no rfl ?_)
          repeat refine Below.setCell ?_ (by show w.heap.size ≤ w.heap.size + 2; omega) _
          exact Hw4.out
        · have q2 : decide (hh.am < over) = true := decide_eq_true h2
          by_cases h3 : over < 0
          · have q3 : decide (over < 0) = true := decide_eq_true h3
            clear h2 h3
            go_wp2
            rw [Hr.out]
            refine bodyPost_ret (v := .tuple #[.agg #[.int .u8 0, .int .u8 0, .int .u8 0, .int .u8 0, .int .u8 0, .int .u8 0, .int .u8 0, .int .u8 0, .int .i64 0, .int .i64 0, .int .i64 0, .slice none 0 0], .int .i64 2]) (by simp [results, Try.results44, go_sem, r0, r1, r2, r3, r4, r5, r6, r7, r8, r9, r10, r11]) rfl (givesChR_no rfl ?_)
            repeat refine Below.setCell ?_ (by show w.heap.size ≤ w.heap.size + 2; omega) _
            exact Hw4.out
          · have q3 : decide (over < 0) = false := decide_eq_false h3
            clear h2 h3
            go_wp2
            rw [Hr.out]
            refine bodyPost_ret (v := .tuple #[.agg #[.int .u8 0, .int .u8 0, .int .u8 0, .int .u8 0, .int .u8 0, .int .u8 0, .int .u8 0, .int .u8 0, .int .i64 0, .int .i64 0, .int .i64 0, .slice none 0 0], .int .i64 2]) (by simp [results, Try.results44, go_sem, r0, r1, r2, r3, r4, r5, r6, r7, r8, r9, r10, r11]) rfl (givesChR_no rfl ?_)
            repeat refine Below.setCell ?_ (by show w.heap.size ≤ w.heap.size + 2; omega) _
            exact Hw4.out
      · have q2 : decide (over < 0) = false := decide_eq_false (by omega)
        have hfr : (p.held.getD k default).fr = 0 ∨ (p.held.getD k default).fr = 1 := by have := Hok.out.2.1; omega
        have Hpe := Lib.hid (part_eq (p := p) (over := over) hfr)
        have q3 : decide ((p.held.getD k default).am < over) = false := decide_eq_false (by omega)
        have ho0 : 0 ≤ over := by omega
        have ho1 : over ≤ (p.held.getD k default).am := by omega
        have hoa : (p.held.getD k default).am ≤ 1125899906842624 := Hok.out.1.2
        have Hfree : Hid (p.free d over = (0, (p.part k over).more)) := by show _ = _; unfold Pu.free; rw [if_pos Hn.out, Hk.out, if_neg (by omega), Int.toNat_natCast, if_neg h2]
        clear h2
        go_wp2_with fail
        refine (placer_any p A n c d w2 H2.out).mono ?_
        (try rw [Hk.out])
        rintro e w3 ⟨rfl, hb3⟩
        have HA3 := Lib.hid (H2.out.up hb3)
        have HP3 := Lib.hid (HP2.out.below hb3 hw2s)
        have hw3s := Nat.le_trans hw2s hb3.size
        have HT3 := Lib.hid (block_below HT2.out hb3 (block_lt HT2.out))
        have HR3 := Lib.hid (block_below HR2.out hb3 (block_lt HR2.out))
        have HQ3 := Lib.hid (block_below HQ2.out hb3 (block_lt HQ2.out))
        have Ho3 := Lib.hid (own_below Ho2.out hb3)
        have Hw3 := Lib.hid (Hw2.out.trans (hb3.mono Hw2.out.size))
        clear hb3 z0 z1 z2 z3 z4 z5 z6 z7 z8 z9 z10 z11 y0 y1 y2 y3 y4 y5 y6 y7 r0 r1 r2 r3 r4 r5 r6 r7 r8 r9 r10 r11 rf
        obtain ⟨z0, z1, z2, z3, z4, z5, z6, z7, z8, z9, z10, z11⟩ := PBox.all HT3.out
        have hk0 : (0 : Int) ≤ (k : Int) := by omega
        have hki : (k : Int) < (n : Int) := by omega
        have Hxx := HA3.out.rd.hd hkn
        obtain ⟨b, o, rfl, hbB, x0, x1, x2, x3, x4, x5, x6, x7, x8, x9, x10⟩ := Hxx
        generalize hgen : p.held.getD k default = hh at *
        have Hgen := Lib.hid hgen
        clear hgen
        have HA4 := Lib.hid (HA3.out.up (below_one w3 (.cells #[.int .u8 (hh.nm.x0 : Int), .int .u8 (hh.nm.x1 : Int), .int .u8 (hh.nm.x2 : Int), .int .u8 (hh.nm.x3 : Int), .int .u8 (hh.nm.x4 : Int), .int .u8 (hh.nm.x5 : Int), .int .u8 (hh.nm.x6 : Int), .int .u8 (hh.nm.x7 : Int), .int .i64 hh.am, .int .i64 hh.fr, .int .i64 hh.un] 60)))
        have HP4 := Lib.hid (HP3.out.alloc hw3s (.cells #[.int .u8 (hh.nm.x0 : Int), .int .u8 (hh.nm.x1 : Int), .int .u8 (hh.nm.x2 : Int), .int .u8 (hh.nm.x3 : Int), .int .u8 (hh.nm.x4 : Int), .int .u8 (hh.nm.x5 : Int), .int .u8 (hh.nm.x6 : Int), .int .u8 (hh.nm.x7 : Int), .int .i64 hh.am, .int .i64 hh.fr, .int .i64 hh.un] 60))
        have HT4 := Lib.hid (block_alloc HT3.out (.cells #[.int .u8 (hh.nm.x0 : Int), .int .u8 (hh.nm.x1 : Int), .int .u8 (hh.nm.x2 : Int), .int .u8 (hh.nm.x3 : Int), .int .u8 (hh.nm.x4 : Int), .int .u8 (hh.nm.x5 : Int), .int .u8 (hh.nm.x6 : Int), .int .u8 (hh.nm.x7 : Int), .int .i64 hh.am, .int .i64 hh.fr, .int .i64 hh.un] 60))
        have HR4 := Lib.hid (block_alloc HR3.out (.cells #[.int .u8 (hh.nm.x0 : Int), .int .u8 (hh.nm.x1 : Int), .int .u8 (hh.nm.x2 : Int), .int .u8 (hh.nm.x3 : Int), .int .u8 (hh.nm.x4 : Int), .int .u8 (hh.nm.x5 : Int), .int .u8 (hh.nm.x6 : Int), .int .u8 (hh.nm.x7 : Int), .int .i64 hh.am, .int .i64 hh.fr, .int .i64 hh.un] 60))
        have HQ4 := Lib.hid (block_alloc HQ3.out (.cells #[.int .u8 (hh.nm.x0 : Int), .int .u8 (hh.nm.x1 : Int), .int .u8 (hh.nm.x2 : Int), .int .u8 (hh.nm.x3 : Int), .int .u8 (hh.nm.x4 : Int), .int .u8 (hh.nm.x5 : Int), .int .u8 (hh.nm.x6 : Int), .int .u8 (hh.nm.x7 : Int), .int .i64 hh.am, .int .i64 hh.fr, .int .i64 hh.un] 60))
        have HH4 := Lib.hid (heap_alloc_new w3 (.cells #[.int .u8 (hh.nm.x0 : Int), .int .u8 (hh.nm.x1 : Int), .int .u8 (hh.nm.x2 : Int), .int .u8 (hh.nm.x3 : Int), .int .u8 (hh.nm.x4 : Int), .int .u8 (hh.nm.x5 : Int), .int .u8 (hh.nm.x6 : Int), .int .u8 (hh.nm.x7 : Int), .int .i64 hh.am, .int .i64 hh.fr, .int .i64 hh.un] 60))
        have Ho4 := Lib.hid (Ho3.out.alloc (.cells #[.int .u8 (hh.nm.x0 : Int), .int .u8 (hh.nm.x1 : Int), .int .u8 (hh.nm.x2 : Int), .int .u8 (hh.nm.x3 : Int), .int .u8 (hh.nm.x4 : Int), .int .u8 (hh.nm.x5 : Int), .int .u8 (hh.nm.x6 : Int), .int .u8 (hh.nm.x7 : Int), .int .i64 hh.am, .int .i64 hh.fr, .int .i64 hh.un] 60))
        have Hw4 := Lib.hid (Hw3.out.alloc Hw3.out.size (.cells #[.int .u8 (hh.nm.x0 : Int), .int .u8 (hh.nm.x1 : Int), .int .u8 (hh.nm.x2 : Int), .int .u8 (hh.nm.x3 : Int), .int .u8 (hh.nm.x4 : Int), .int .u8 (hh.nm.x5 : Int), .int .u8 (hh.nm.x6 : Int), .int .u8 (hh.nm.x7 : Int), .int .i64 hh.am, .int .i64 hh.fr, .int .i64 hh.un] 60))
        have hlt3 : w1.heap.size < w3.heap.size := block_lt HQ3.out
        go_upto_region 8 with fail
        clear x0 x1 x2 x3 x4 x5 x6 x7 x8 x9 x10 z0 z1 z2 z3 z4 z5 z6 z7 z8 z9 z10 z11
        generalize (w3.alloc (.cells #[.int .u8 (hh.nm.x0 : Int), .int .u8 (hh.nm.x1 : Int), .int .u8 (hh.nm.x2 : Int), .int .u8 (hh.nm.x3 : Int), .int .u8 (hh.nm.x4 : Int), .int .u8 (hh.nm.x5 : Int), .int .u8 (hh.nm.x6 : Int), .int .u8 (hh.nm.x7 : Int), .int .i64 hh.am, .int .i64 hh.fr, .int .i64 hh.un] 60)) = w4 at *
        obtain ⟨x0, x1, x2, x3, x4, x5, x6, x7, x8, x9, x10⟩ := HBox.all (h := hh) HH4.out
        have r := block_cell HR4.out
        have r0 := r 0; have r1 := r 1; have r2 := r 2; have r3 := r 3; have r4 := r 4; have r5 := r 5; have r6 := r 6; have r7 := r 7; have r8 := r 8; have r9 := r 9; have r10 := r 10; have r11 := r 11
        have rf := block_free HR4.out
        simp at r0 r1 r2 r3 r4 r5 r6 r7 r8 r9 r10 r11
        clear r
        obtain ⟨hm, ha, hf, hu⟩ := hh
        simp only at *
        rcases hfr with rfl | rfl
        ·
          have Hr : Hid (p.free d over = (0, ⟨p.nm, p.no + 1, (p.h0 + ha - over), (p.h1 + over), outL p.held k⟩)) := by
            show _ = _
            rw [Hfree.out, Hpe.out]
            simp only [Pu.more, Prod.mk.injEq, Pu.mk.injEq, true_and, and_true]
            first | (simp; omega) | simp | omega
          clear Hfree Hpe
          obtain ⟨t0, t1, t2, t3, t4, t5, t6, t7, t8, t9, t10, t11⟩ := PBox.all (p := (⟨p.nm, p.no + 1, p.h0, p.h1, p.held⟩ : Pu)) HQ4.out
          simp only at t0 t1 t2 t3 t4 t5 t6 t7 t8 t9 t10 t11
          have tf := block_free HQ4.out
          go_wp2
          go_region
          go_wp2
          go_region
          have hg4 : w1.heap.size < w4.heap.size := block_lt HQ4.out
          have hwB : w0.heap.size ≤ w1.heap.size := by rw [Hz.out]; exact hs1
          have HQ5 : Hid ((((w4.setCell ⟨w1.heap.size, 10, none⟩ (.int .i64 (p.h1 + over))).setCell ⟨w1.heap.size, 9, none⟩ (.int .i64 (p.h0 + ha - over))).drew.drew).heap[w1.heap.size]? = some (.cells #[.int .u8 (p.nm.x0 : Int), .int .u8 (p.nm.x1 : Int), .int .u8 (p.nm.x2 : Int), .int .u8 (p.nm.x3 : Int), .int .u8 (p.nm.x4 : Int), .int .u8 (p.nm.x5 : Int), .int .u8 (p.nm.x6 : Int), .int .u8 (p.nm.x7 : Int), .int .i64 (p.no + 1), .int .i64 (p.h0 + ha - over), .int .i64 (p.h1 + over), .slice A1 n1 c1] 26 (0, 0))) := by
            have h1 := Joins.block_setCell (i := 10) HQ4.out (.int .i64 (p.h1 + over))
            have h2 := Joins.block_setCell (i := 9) h1 (.int .i64 (p.h0 + ha - over))
            simp at h2
            exact h2
          have HT5 : Hid ((((w4.setCell ⟨w1.heap.size, 10, none⟩ (.int .i64 (p.h1 + over))).setCell ⟨w1.heap.size, 9, none⟩ (.int .i64 (p.h0 + ha - over))).drew.drew).heap[w.heap.size]? = some (.cells #[.int .u8 (p.nm.x0 : Int), .int .u8 (p.nm.x1 : Int), .int .u8 (p.nm.x2 : Int), .int .u8 (p.nm.x3 : Int), .int .u8 (p.nm.x4 : Int), .int .u8 (p.nm.x5 : Int), .int .u8 (p.nm.x6 : Int), .int .u8 (p.nm.x7 : Int), .int .i64 p.no, .int .i64 p.h0, .int .i64 p.h1, .slice (some ⟨b, o, none⟩) n c] 26 (0, 0))) :=
            ((pgrown_set (w := (w4.setCell ⟨w1.heap.size, 10, none⟩ (.int .i64 (p.h1 + over)))) w1.heap.size 9 _).block w.heap.size (by simp; omega) (by simp; omega)).trans (((pgrown_set (w := w4) w1.heap.size 10 _).block w.heap.size (by omega) (by simp; omega)).trans HT4.out)
          have HR5 : Hid ((((w4.setCell ⟨w1.heap.size, 10, none⟩ (.int .i64 (p.h1 + over))).setCell ⟨w1.heap.size, 9, none⟩ (.int .i64 (p.h0 + ha - over))).drew.drew).heap[w.heap.size + 2]? = some (.cells #[.int .u8 0, .int .u8 0, .int .u8 0, .int .u8 0, .int .u8 0, .int .u8 0, .int .u8 0, .int .u8 0, .int .i64 0, .int .i64 0, .int .i64 0, .slice none 0 0] 26 (0, 0))) :=
            ((pgrown_set (w := (w4.setCell ⟨w1.heap.size, 10, none⟩ (.int .i64 (p.h1 + over)))) w1.heap.size 9 _).block (w.heap.size + 2) (by simp; omega) (by simp; omega)).trans (((pgrown_set (w := w4) w1.heap.size 10 _).block (w.heap.size + 2) (by omega) (by simp; omega)).trans HR4.out)
          have HP5 : Hid (Rd (((w4.setCell ⟨w1.heap.size, 10, none⟩ (.int .i64 (p.h1 + over))).setCell ⟨w1.heap.size, 9, none⟩ (.int .i64 (p.h0 + ha - over))).drew.drew) w0.heap.size 11 (some ⟨b, o, none⟩) n (flatH p.held)) := ((HP4.out.setCell (p := ⟨w1.heap.size, 10, none⟩) hwB _).setCell (p := ⟨w1.heap.size, 9, none⟩) hwB _)
          have Hw5 : Hid (Below w.heap.size w (((w4.setCell ⟨w1.heap.size, 10, none⟩ (.int .i64 (p.h1 + over))).setCell ⟨w1.heap.size, 9, none⟩ (.int .i64 (p.h0 + ha - over))).drew.drew)) := (((Hw4.out.setCell (by show w.heap.size ≤ w1.heap.size; omega) _).setCell (by show w.heap.size ≤ w1.heap.size; omega) _).drew).drew
          clear x0 x1 x2 x3 x4 x5 x6 x7 x8 x9 x10 t0 t1 t2 t3 t4 t5 t6 t7 t8 t9 t10 t11 tf r0 r1 r2 r3 r4 r5 r6 r7 r8 r9 r10 r11 rf
          generalize (((w4.setCell ⟨w1.heap.size, 10, none⟩ (.int .i64 (p.h1 + over))).setCell ⟨w1.heap.size, 9, none⟩ (.int .i64 (p.h0 + ha - over))).drew.drew) = w5 at *
          have hg5 : w1.heap.size < w5.heap.size := block_lt HQ5.out
          have hB5 : w0.heap.size ≤ w5.heap.size := by omega
          obtain ⟨A2, hrun1, hrd1⟩ := slice_to elem_heldR sizeOf_heldR HP5.out HA4.out.cap (m := k) (by omega)
          obtain ⟨A3, hrun2, hrd2⟩ := slice_from elem_heldR sizeOf_heldR HP5.out HA4.out.cap (k := k + 1) (by omega)
          rw [← flatH_take] at hrd1
          rw [← flatH_drop] at hrd2
          have hcast : ((k + 1 : Nat) : Int) = (k : Int) + 1 := by omega
          rw [hcast] at hrun2
          have HO6 := Lib.hid (World.ownsRow_made (base := w5.heap.size) (e := 60) (size := 11) w5.drew #[] 0 (Nat.le_refl _) (by decide) rfl)
          have Hrd1 := Lib.hid ((hrd1.drew).alloc (by exact hB5) (.cells #[] 60))
          have Hrd2 := Lib.hid ((hrd2.drew).alloc (by exact hB5) (.cells #[] 60))
          have HT6 := Lib.hid (block_alloc (w := w5.drew) HT5.out (.cells #[] 60))
          have HQ6 := Lib.hid (block_alloc (w := w5.drew) HQ5.out (.cells #[] 60))
          have HR6 := Lib.hid (block_alloc (w := w5.drew) HR5.out (.cells #[] 60))
          have Hw6 := Lib.hid ((Hw5.out.drew).alloc (by exact Hw5.out.size) (.cells #[] 60))
          have hwrap : IntKind.i64.wrap ((k : Int) + 1) = (k : Int) + 1 := IntWalk.i64_in _ (by omega)
          have hk1 : (0 : Int) ≤ (k : Int) + 1 := by omega
          have ht5 := block_cell HT5.out 11
          simp at ht5
          clear hrd1 hrd2 hcast
          go_wp2
          go_region_held3 (fun w' => w'.cell? ⟨w.heap.size, 11, none⟩ = some (.slice (some ⟨b, o, none⟩) n c))
            (first | with_reducible exact HS9.out | with_reducible exact HS8.out | with_reducible exact HS7.out | exact ht5 | with_reducible exact slot11 HT6.out | go_keep)
            (first
             | (have _g := HO7; clear _g; refine step_append_rdg w7 (by rfl) _ _ 24 (by rfl) w5.heap.size 60 i0 (.agg #[.int .u8 0, .int .u8 0, .int .u8 0, .int .u8 0, .int .u8 0, .int .u8 0, .int .u8 0, .int .u8 0, .int .i64 0, .int .i64 0, .int .i64 0]) 11 32 Try.underlying24 HI.out rfl (by decide) _ _ _ (by rfl) HO7.out w0.heap.size A3 (n - (k + 1)) (c - (k + 1)) _ (by simp [Act.eval, Act.put]) Hrd27.out (flatH_one _) (by omega) (by omega) hz7 ?_; go_must (intro v8 w8 ho8 hb8 hg8; obtain ⟨A8, c8, rfl⟩ := own_form ho8; have HO8 := Lib.hid ho8; have HQ8 := Lib.hid (block_below HQ7.out hb8 hg5); have HT8 := Lib.hid (block_below HT7.out hb8 (by omega)); have HR8 := Lib.hid (block_below HR7.out hb8 (by omega)); have HS8 := Lib.hid (slot11 HT8.out); have HS9 := Lib.hid (slot11s (g := w1.heap.size) HT8.out (by omega) (.slice A8 (k + (n - (k + 1))) c8)); have Hw8 := Lib.hid (Hw7.out.trans (hb8.mono (by omega))); obtain ⟨t0, t1, t2, t3, t4, t5, t6, t7, t8, t9, t10, t11⟩ := PBox.all (p := (⟨p.nm, p.no + 1, (p.h0 + ha - over), (p.h1 + over), p.held⟩ : Pu)) HQ8.out; simp only at t0 t1 t2 t3 t4 t5 t6 t7 t8 t9 t10 t11; have tf := block_free HQ8.out; have hr8 := HR8.out; have qq := block_cell hr8; have r0 := qq 0; have r1 := qq 1; have r2 := qq 2; have r3 := qq 3; have r4 := qq 4; have r5 := qq 5; have r6 := qq 6; have r7 := qq 7; have r8 := qq 8; have r9 := qq 9; have r10 := qq 10; have r11 := qq 11; have rf := block_free hr8; simp at r0 r1 r2 r3 r4 r5 r6 r7 r8 r9 r10 r11; clear qq hr8 ho8 hb8 hg8))
             | (refine step_append_rdg (w5.drew.alloc (.cells #[] 60)) (by rfl) _ _ 24 (by rfl) w5.heap.size 60 i0 (.agg #[.int .u8 0, .int .u8 0, .int .u8 0, .int .u8 0, .int .u8 0, .int .u8 0, .int .u8 0, .int .u8 0, .int .i64 0, .int .i64 0, .int .i64 0]) 11 32 Try.underlying24 HI.out rfl (by decide) _ _ _ (by rfl) HO6.out w0.heap.size A2 k c _ (by simp [Act.eval, Act.put]) Hrd1.out (flatH_one _) (by omega) (by omega) (by simp) ?_; go_must (intro v7 w7 ho7 hb7 hg7; obtain ⟨A7, c7, rfl⟩ := own_form ho7; have HO7 := Lib.hid ho7; have hz7 : w5.heap.size ≤ w7.heap.size := Nat.le_trans (by simp) hb7.size; have HQ7 := Lib.hid (block_below HQ6.out hb7 hg5); have HT7 := Lib.hid (block_below HT6.out hb7 (by omega)); have HR7 := Lib.hid (block_below HR6.out hb7 (by omega)); have HS7 := Lib.hid (slot11 HT7.out); have Hw7 := Lib.hid (Hw6.out.trans (hb7.mono (by omega))); have Hrd27 := Lib.hid (Hrd2.out.below hb7 hB5); clear ho7 hb7 hg7)))
          all_goals
            go_wp2
            rw [Hr.out]
            refine bodyPost_ret (v := .tuple #[.agg #[.int .u8 (p.nm.x0 : Int), .int .u8 (p.nm.x1 : Int), .int .u8 (p.nm.x2 : Int), .int .u8 (p.nm.x3 : Int), .int .u8 (p.nm.x4 : Int), .int .u8 (p.nm.x5 : Int), .int .u8 (p.nm.x6 : Int), .int .u8 (p.nm.x7 : Int), .int .i64 (p.no + 1), .int .i64 (p.h0 + ha - over), .int .i64 (p.h1 + over), .slice A8 (k + (n - (k + 1))) c8], .int .i64 0]) (by simp [results, Try.results44, go_sem, r0, r1, r2, r3, r4, r5, r6, r7, r8, r9, r10, r11, hne1, hne2]) rfl ⟨A8, k + (n - (k + 1)), c8, rfl, ?_, ?_⟩
            · refine pown_down (base := w5.heap.size) ?_ (by omega)
              repeat (first | refine ownsRow_setCell_below ?_ (by show w.heap.size + 2 < _; omega) _)
              have ho := HO8.out
              rw [Nat.zero_add, List.nil_append, ← flatH_append] at ho
              exact own_set ho HQ8.out (by decide) 11 _
            · repeat refine Below.setCell ?_ (by first | (show w.heap.size ≤ w.heap.size + 2; omega) | (show w.heap.size ≤ w1.heap.size; omega)) _
              exact Hw8.out
        ·
          have Hr : Hid (p.free d over = (0, ⟨p.nm, p.no + 1, (p.h0 + over), (p.h1 + ha - over), outL p.held k⟩)) := by
            show _ = _
            rw [Hfree.out, Hpe.out]
            simp only [Pu.more, Prod.mk.injEq, Pu.mk.injEq, true_and, and_true]
            first | (simp; omega) | simp | omega
          clear Hfree Hpe
          obtain ⟨t0, t1, t2, t3, t4, t5, t6, t7, t8, t9, t10, t11⟩ := PBox.all (p := (⟨p.nm, p.no + 1, p.h0, p.h1, p.held⟩ : Pu)) HQ4.out
          simp only at t0 t1 t2 t3 t4 t5 t6 t7 t8 t9 t10 t11
          have tf := block_free HQ4.out
          go_wp2
          go_region
          go_wp2
          go_region
          have hg4 : w1.heap.size < w4.heap.size := block_lt HQ4.out
          have hwB : w0.heap.size ≤ w1.heap.size := by rw [Hz.out]; exact hs1
          have HQ5 : Hid ((((w4.setCell ⟨w1.heap.size, 9, none⟩ (.int .i64 (p.h0 + over))).setCell ⟨w1.heap.size, 10, none⟩ (.int .i64 (p.h1 + ha - over))).drew.drew).heap[w1.heap.size]? = some (.cells #[.int .u8 (p.nm.x0 : Int), .int .u8 (p.nm.x1 : Int), .int .u8 (p.nm.x2 : Int), .int .u8 (p.nm.x3 : Int), .int .u8 (p.nm.x4 : Int), .int .u8 (p.nm.x5 : Int), .int .u8 (p.nm.x6 : Int), .int .u8 (p.nm.x7 : Int), .int .i64 (p.no + 1), .int .i64 (p.h0 + over), .int .i64 (p.h1 + ha - over), .slice A1 n1 c1] 26 (0, 0))) := by
            have h1 := Joins.block_setCell (i := 9) HQ4.out (.int .i64 (p.h0 + over))
            have h2 := Joins.block_setCell (i := 10) h1 (.int .i64 (p.h1 + ha - over))
            simp at h2
            exact h2
          have HT5 : Hid ((((w4.setCell ⟨w1.heap.size, 9, none⟩ (.int .i64 (p.h0 + over))).setCell ⟨w1.heap.size, 10, none⟩ (.int .i64 (p.h1 + ha - over))).drew.drew).heap[w.heap.size]? = some (.cells #[.int .u8 (p.nm.x0 : Int), .int .u8 (p.nm.x1 : Int), .int .u8 (p.nm.x2 : Int), .int .u8 (p.nm.x3 : Int), .int .u8 (p.nm.x4 : Int), .int .u8 (p.nm.x5 : Int), .int .u8 (p.nm.x6 : Int), .int .u8 (p.nm.x7 : Int), .int .i64 p.no, .int .i64 p.h0, .int .i64 p.h1, .slice (some ⟨b, o, none⟩) n c] 26 (0, 0))) :=
            ((pgrown_set (w := (w4.setCell ⟨w1.heap.size, 9, none⟩ (.int .i64 (p.h0 + over)))) w1.heap.size 10 _).block w.heap.size (by simp; omega) (by simp; omega)).trans (((pgrown_set (w := w4) w1.heap.size 9 _).block w.heap.size (by omega) (by simp; omega)).trans HT4.out)
          have HR5 : Hid ((((w4.setCell ⟨w1.heap.size, 9, none⟩ (.int .i64 (p.h0 + over))).setCell ⟨w1.heap.size, 10, none⟩ (.int .i64 (p.h1 + ha - over))).drew.drew).heap[w.heap.size + 2]? = some (.cells #[.int .u8 0, .int .u8 0, .int .u8 0, .int .u8 0, .int .u8 0, .int .u8 0, .int .u8 0, .int .u8 0, .int .i64 0, .int .i64 0, .int .i64 0, .slice none 0 0] 26 (0, 0))) :=
            ((pgrown_set (w := (w4.setCell ⟨w1.heap.size, 9, none⟩ (.int .i64 (p.h0 + over)))) w1.heap.size 10 _).block (w.heap.size + 2) (by simp; omega) (by simp; omega)).trans (((pgrown_set (w := w4) w1.heap.size 9 _).block (w.heap.size + 2) (by omega) (by simp; omega)).trans HR4.out)
          have HP5 : Hid (Rd (((w4.setCell ⟨w1.heap.size, 9, none⟩ (.int .i64 (p.h0 + over))).setCell ⟨w1.heap.size, 10, none⟩ (.int .i64 (p.h1 + ha - over))).drew.drew) w0.heap.size 11 (some ⟨b, o, none⟩) n (flatH p.held)) := ((HP4.out.setCell (p := ⟨w1.heap.size, 9, none⟩) hwB _).setCell (p := ⟨w1.heap.size, 10, none⟩) hwB _)
          have Hw5 : Hid (Below w.heap.size w (((w4.setCell ⟨w1.heap.size, 9, none⟩ (.int .i64 (p.h0 + over))).setCell ⟨w1.heap.size, 10, none⟩ (.int .i64 (p.h1 + ha - over))).drew.drew)) := (((Hw4.out.setCell (by show w.heap.size ≤ w1.heap.size; omega) _).setCell (by show w.heap.size ≤ w1.heap.size; omega) _).drew).drew
          clear x0 x1 x2 x3 x4 x5 x6 x7 x8 x9 x10 t0 t1 t2 t3 t4 t5 t6 t7 t8 t9 t10 t11 tf r0 r1 r2 r3 r4 r5 r6 r7 r8 r9 r10 r11 rf
          generalize (((w4.setCell ⟨w1.heap.size, 9, none⟩ (.int .i64 (p.h0 + over))).setCell ⟨w1.heap.size, 10, none⟩ (.int .i64 (p.h1 + ha - over))).drew.drew) = w5 at *
          have hg5 : w1.heap.size < w5.heap.size := block_lt HQ5.out
          have hB5 : w0.heap.size ≤ w5.heap.size := by omega
          obtain ⟨A2, hrun1, hrd1⟩ := slice_to elem_heldR sizeOf_heldR HP5.out HA4.out.cap (m := k) (by omega)
          obtain ⟨A3, hrun2, hrd2⟩ := slice_from elem_heldR sizeOf_heldR HP5.out HA4.out.cap (k := k + 1) (by omega)
          rw [← flatH_take] at hrd1
          rw [← flatH_drop] at hrd2
          have hcast : ((k + 1 : Nat) : Int) = (k : Int) + 1 := by omega
          rw [hcast] at hrun2
          have HO6 := Lib.hid (World.ownsRow_made (base := w5.heap.size) (e := 60) (size := 11) w5.drew #[] 0 (Nat.le_refl _) (by decide) rfl)
          have Hrd1 := Lib.hid ((hrd1.drew).alloc (by exact hB5) (.cells #[] 60))
          have Hrd2 := Lib.hid ((hrd2.drew).alloc (by exact hB5) (.cells #[] 60))
          have HT6 := Lib.hid (block_alloc (w := w5.drew) HT5.out (.cells #[] 60))
          have HQ6 := Lib.hid (block_alloc (w := w5.drew) HQ5.out (.cells #[] 60))
          have HR6 := Lib.hid (block_alloc (w := w5.drew) HR5.out (.cells #[] 60))
          have Hw6 := Lib.hid ((Hw5.out.drew).alloc (by exact Hw5.out.size) (.cells #[] 60))
          have hwrap : IntKind.i64.wrap ((k : Int) + 1) = (k : Int) + 1 := IntWalk.i64_in _ (by omega)
          have hk1 : (0 : Int) ≤ (k : Int) + 1 := by omega
          have ht5 := block_cell HT5.out 11
          simp at ht5
          clear hrd1 hrd2 hcast
          go_wp2
          go_region_held3 (fun w' => w'.cell? ⟨w.heap.size, 11, none⟩ = some (.slice (some ⟨b, o, none⟩) n c))
            (first | with_reducible exact HS9.out | with_reducible exact HS8.out | with_reducible exact HS7.out | exact ht5 | with_reducible exact slot11 HT6.out | go_keep)
            (first
             | (have _g := HO7; clear _g; refine step_append_rdg w7 (by rfl) _ _ 24 (by rfl) w5.heap.size 60 i0 (.agg #[.int .u8 0, .int .u8 0, .int .u8 0, .int .u8 0, .int .u8 0, .int .u8 0, .int .u8 0, .int .u8 0, .int .i64 0, .int .i64 0, .int .i64 0]) 11 32 Try.underlying24 HI.out rfl (by decide) _ _ _ (by rfl) HO7.out w0.heap.size A3 (n - (k + 1)) (c - (k + 1)) _ (by simp [Act.eval, Act.put]) Hrd27.out (flatH_one _) (by omega) (by omega) hz7 ?_; go_must (intro v8 w8 ho8 hb8 hg8; obtain ⟨A8, c8, rfl⟩ := own_form ho8; have HO8 := Lib.hid ho8; have HQ8 := Lib.hid (block_below HQ7.out hb8 hg5); have HT8 := Lib.hid (block_below HT7.out hb8 (by omega)); have HR8 := Lib.hid (block_below HR7.out hb8 (by omega)); have HS8 := Lib.hid (slot11 HT8.out); have HS9 := Lib.hid (slot11s (g := w1.heap.size) HT8.out (by omega) (.slice A8 (k + (n - (k + 1))) c8)); have Hw8 := Lib.hid (Hw7.out.trans (hb8.mono (by omega))); obtain ⟨t0, t1, t2, t3, t4, t5, t6, t7, t8, t9, t10, t11⟩ := PBox.all (p := (⟨p.nm, p.no + 1, (p.h0 + over), (p.h1 + ha - over), p.held⟩ : Pu)) HQ8.out; simp only at t0 t1 t2 t3 t4 t5 t6 t7 t8 t9 t10 t11; have tf := block_free HQ8.out; have hr8 := HR8.out; have qq := block_cell hr8; have r0 := qq 0; have r1 := qq 1; have r2 := qq 2; have r3 := qq 3; have r4 := qq 4; have r5 := qq 5; have r6 := qq 6; have r7 := qq 7; have r8 := qq 8; have r9 := qq 9; have r10 := qq 10; have r11 := qq 11; have rf := block_free hr8; simp at r0 r1 r2 r3 r4 r5 r6 r7 r8 r9 r10 r11; clear qq hr8 ho8 hb8 hg8))
             | (refine step_append_rdg (w5.drew.alloc (.cells #[] 60)) (by rfl) _ _ 24 (by rfl) w5.heap.size 60 i0 (.agg #[.int .u8 0, .int .u8 0, .int .u8 0, .int .u8 0, .int .u8 0, .int .u8 0, .int .u8 0, .int .u8 0, .int .i64 0, .int .i64 0, .int .i64 0]) 11 32 Try.underlying24 HI.out rfl (by decide) _ _ _ (by rfl) HO6.out w0.heap.size A2 k c _ (by simp [Act.eval, Act.put]) Hrd1.out (flatH_one _) (by omega) (by omega) (by simp) ?_; go_must (intro v7 w7 ho7 hb7 hg7; obtain ⟨A7, c7, rfl⟩ := own_form ho7; have HO7 := Lib.hid ho7; have hz7 : w5.heap.size ≤ w7.heap.size := Nat.le_trans (by simp) hb7.size; have HQ7 := Lib.hid (block_below HQ6.out hb7 hg5); have HT7 := Lib.hid (block_below HT6.out hb7 (by omega)); have HR7 := Lib.hid (block_below HR6.out hb7 (by omega)); have HS7 := Lib.hid (slot11 HT7.out); have Hw7 := Lib.hid (Hw6.out.trans (hb7.mono (by omega))); have Hrd27 := Lib.hid (Hrd2.out.below hb7 hB5); clear ho7 hb7 hg7)))
          all_goals
            go_wp2
            rw [Hr.out]
            refine bodyPost_ret (v := .tuple #[.agg #[.int .u8 (p.nm.x0 : Int), .int .u8 (p.nm.x1 : Int), .int .u8 (p.nm.x2 : Int), .int .u8 (p.nm.x3 : Int), .int .u8 (p.nm.x4 : Int), .int .u8 (p.nm.x5 : Int), .int .u8 (p.nm.x6 : Int), .int .u8 (p.nm.x7 : Int), .int .i64 (p.no + 1), .int .i64 (p.h0 + over), .int .i64 (p.h1 + ha - over), .slice A8 (k + (n - (k + 1))) c8], .int .i64 0]) (by simp [results, Try.results44, go_sem, r0, r1, r2, r3, r4, r5, r6, r7, r8, r9, r10, r11, hne1, hne2]) rfl ⟨A8, k + (n - (k + 1)), c8, rfl, ?_, ?_⟩
            · refine pown_down (base := w5.heap.size) ?_ (by omega)
              repeat (first | refine ownsRow_setCell_below ?_ (by show w.heap.size + 2 < _; omega) _)
              have ho := HO8.out
              rw [Nat.zero_add, List.nil_append, ← flatH_append] at ho
              exact own_set ho HQ8.out (by decide) 11 _
            · repeat refine Below.setCell ?_ (by first | (show w.heap.size ≤ w.heap.size + 2; omega) | (show w.heap.size ≤ w1.heap.size; omega)) _
              exact Hw8.out
  · have hq : (en, q) = (p.next, pu0) := by rw [← Hnp.out, nextP_no hn]
    injection hq with hq1 hq2
    subst hq1
    subst hq2
    have b1 : (p.next != 0) = true := by simpa using hn
    have Hr := Lib.hid (free_next (d := d) (o := over) hn)
    clear hn Hnp
    go_wp2
    rw [Hr.out]
    refine bodyPost_ret (v := .tuple #[.agg #[.int .u8 0, .int .u8 0, .int .u8 0, .int .u8 0, .int .u8 0, .int .u8 0, .int .u8 0, .int .u8 0, .int .i64 0, .int .i64 0, .int .i64 0, .slice none 0 0], .int .i64 p.next]) (by simp [results, Try.results44, go_sem, r0, r1, r2, r3, r4, r5, r6, r7, r8, r9, r10, r11]) rfl (givesChR_no rfl ?_)
    repeat refine Below.setCell ?_ (by show w.heap.size ≤ w.heap.size + 2; omega) _
    exact Hw2.out
end Go.Proofs.Ytjiecnoplnaahaa
