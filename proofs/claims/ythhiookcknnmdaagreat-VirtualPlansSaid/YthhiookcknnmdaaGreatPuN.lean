/- The walks of changed, Pay, Hold, Free and Back of a purse. Conditions: bounds. -/
import Derived.Test.YthhiookcknnmdaaGreatPuM
import Derived.Test.YthhiookcknnmdaaGreatPuF
namespace Go.Proofs.YthhiookcknnmdaaGreat
open Go.RowKit Go.Lib

def GivesCh (r : Int × Pu) (w : World) (e : Ending) (w' : World) : Prop :=
 ∃ A n c, e = .returned (.tuple #[.agg #[.int .u8 r.2.nm.x0, .int .u8 r.2.nm.x1, .int .u8 r.2.nm.x2, .int .u8 r.2.nm.x3, .int .u8 r.2.nm.x4, .int .u8 r.2.nm.x5, .int .u8 r.2.nm.x6, .int .u8 r.2.nm.x7, .int .i64 r.2.no, .int .i64 r.2.h0, .int .i64 r.2.h1, .slice A n c], .int .i64 r.1]) ∧ w'.ownsRow w.heap.size 120 11 (.slice A n c) n (flatH r.2.held) ∧ Below w.heap.size w w'
theorem givesCh_no {r : Int × Pu} {w w' : World} {k : Int} (hr : r = (k, pu0)) (hb : Below w.heap.size w w') :
  GivesCh r w (.returned (.tuple #[.agg #[.int .u8 0, .int .u8 0, .int .u8 0, .int .u8 0, .int .u8 0, .int .u8 0, .int .u8 0, .int .u8 0, .int .i64 0, .int .i64 0, .int .i64 0, .slice none 0 0], .int .i64 k])) w' := by
 subst hr
 exact ⟨none, 0, 0, rfl, World.ownsRow_nil _ _ _ _, hb⟩
theorem via_check {p : Pu} {r : Int × Pu} (h : p.check ≠ 0) : p.via r = (3, pu0) := by
 have : p.next = 3 := by unfold Pu.next; rw [if_neg h]
 unfold Pu.via; rw [this, if_neg (by decide)]
theorem via_spent {p : Pu} {r : Int × Pu} (h : p.check = 0) (h2 : p.no = 1099511627776) : p.via r = (17, pu0) := by
 have : p.next = 17 := by unfold Pu.next; rw [if_pos h, if_pos h2]
 unfold Pu.via; rw [this, if_neg (by decide)]
theorem via_bad {p : Pu} {r : Int × Pu} (h : p.check = 0) (h2 : p.no ≠ 1099511627776) (h3 : r.1 ≠ 0) : p.via r = (r.1, pu0) := by
 unfold Pu.via; rw [if_pos (next_eq h h2), if_neg h3]
theorem via_good {p : Pu} {r : Int × Pu} (h : p.check = 0) (h2 : p.no ≠ 1099511627776) (h3 : r.1 = 0) : p.via r = (0, r.2.more) := by
 unfold Pu.via; rw [if_pos (next_eq h h2), if_pos h3]
set_option maxRecDepth 100000 in
set_option maxHeartbeats 2000000 in
theorem chHold (p : Pu) (A : Option Addr) (n c : Nat) (V1 : Value) (r : Int × Pu) (w : World) (h : PuV.At p A n c w)
  (hcall : p.check = 0 → ∀ g A2 n2 c2 w2, PuO (w.heap.size + 2) g p A2 n2 c2 w2 → Below w.heap.size w w2 → Calls Tryz.prog 162 #[.pointer (some ⟨g, 0, none⟩), V1] w2 (GivesQ (w.heap.size + 2) g w2 r))
  (hno : r.1 = 0 → r.2.no = p.no) :
  Calls Tryz.prog 140 #[.agg #[.int .u8 p.nm.x0, .int .u8 p.nm.x1, .int .u8 p.nm.x2, .int .u8 p.nm.x3, .int .u8 p.nm.x4, .int .u8 p.nm.x5, .int .u8 p.nm.x6, .int .u8 p.nm.x7, .int .i64 p.no, .int .i64 p.h0, .int .i64 p.h1, .slice A n c], .func (.func 162) #[] #[V1]] w (GivesCh (p.via r) w) := by
 have HT : Hid (((w.alloc (.cells #[.int .u8 p.nm.x0, .int .u8 p.nm.x1, .int .u8 p.nm.x2, .int .u8 p.nm.x3, .int .u8 p.nm.x4, .int .u8 p.nm.x5, .int .u8 p.nm.x6, .int .u8 p.nm.x7, .int .i64 p.no, .int .i64 p.h0, .int .i64 p.h1, .slice A n c] 85)).alloc (.cells #[.int .u8 0, .int .u8 0, .int .u8 0, .int .u8 0, .int .u8 0, .int .u8 0, .int .u8 0, .int .u8 0, .int .i64 0, .int .i64 0, .int .i64 0, .slice none 0 0] 85)).heap[w.heap.size]? = some (.cells #[.int .u8 p.nm.x0, .int .u8 p.nm.x1, .int .u8 p.nm.x2, .int .u8 p.nm.x3, .int .u8 p.nm.x4, .int .u8 p.nm.x5, .int .u8 p.nm.x6, .int .u8 p.nm.x7, .int .i64 p.no, .int .i64 p.h0, .int .i64 p.h1, .slice A n c] 85 (0, 0))) := block_alloc (heap_alloc_new _ _) _
 have HR : Hid (((w.alloc (.cells #[.int .u8 p.nm.x0, .int .u8 p.nm.x1, .int .u8 p.nm.x2, .int .u8 p.nm.x3, .int .u8 p.nm.x4, .int .u8 p.nm.x5, .int .u8 p.nm.x6, .int .u8 p.nm.x7, .int .i64 p.no, .int .i64 p.h0, .int .i64 p.h1, .slice A n c] 85)).alloc (.cells #[.int .u8 0, .int .u8 0, .int .u8 0, .int .u8 0, .int .u8 0, .int .u8 0, .int .u8 0, .int .u8 0, .int .i64 0, .int .i64 0, .int .i64 0, .slice none 0 0] 85)).heap[w.heap.size + 1]? = some (.cells #[.int .u8 0, .int .u8 0, .int .u8 0, .int .u8 0, .int .u8 0, .int .u8 0, .int .u8 0, .int .u8 0, .int .i64 0, .int .i64 0, .int .i64 0, .slice none 0 0] 85 (0, 0))) := alloc_at (by simp)
 have Hw := Lib.hid (below_two w (.cells #[.int .u8 p.nm.x0, .int .u8 p.nm.x1, .int .u8 p.nm.x2, .int .u8 p.nm.x3, .int .u8 p.nm.x4, .int .u8 p.nm.x5, .int .u8 p.nm.x6, .int .u8 p.nm.x7, .int .i64 p.no, .int .i64 p.h0, .int .i64 p.h1, .slice A n c] 85) (.cells #[.int .u8 0, .int .u8 0, .int .u8 0, .int .u8 0, .int .u8 0, .int .u8 0, .int .u8 0, .int .u8 0, .int .i64 0, .int .i64 0, .int .i64 0, .slice none 0 0] 85))
 have Hz : Hid (((w.alloc (.cells #[.int .u8 p.nm.x0, .int .u8 p.nm.x1, .int .u8 p.nm.x2, .int .u8 p.nm.x3, .int .u8 p.nm.x4, .int .u8 p.nm.x5, .int .u8 p.nm.x6, .int .u8 p.nm.x7, .int .i64 p.no, .int .i64 p.h0, .int .i64 p.h1, .slice A n c] 85)).alloc (.cells #[.int .u8 0, .int .u8 0, .int .u8 0, .int .u8 0, .int .u8 0, .int .u8 0, .int .u8 0, .int .u8 0, .int .i64 0, .int .i64 0, .int .i64 0, .slice none 0 0] 85)).heap.size = w.heap.size + 2) := by show _ = _; simp
 have H := Lib.hid (h.up Hw.out)
 have Hcall := Lib.hid hcall
 have Hno := Lib.hid hno
 clear h hcall hno
 go_enter Tryz.func140, Tryz.ntmps140
 go_wp2_with fail
 refine (pcheck_any p A n c _ H.out).mono ?_
 generalize ((w.alloc (.cells #[.int .u8 p.nm.x0, .int .u8 p.nm.x1, .int .u8 p.nm.x2, .int .u8 p.nm.x3, .int .u8 p.nm.x4, .int .u8 p.nm.x5, .int .u8 p.nm.x6, .int .u8 p.nm.x7, .int .i64 p.no, .int .i64 p.h0, .int .i64 p.h1, .slice A n c] 85)).alloc (.cells #[.int .u8 0, .int .u8 0, .int .u8 0, .int .u8 0, .int .u8 0, .int .u8 0, .int .u8 0, .int .u8 0, .int .i64 0, .int .i64 0, .int .i64 0, .slice none 0 0] 85)) = w0 at *
 rintro e w1 ⟨rfl, hb1⟩
 have HT1 := Lib.hid (block_below HT.out hb1 (by rw [Hz.out]; omega))
 have HR1 := Lib.hid (block_below HR.out hb1 (by rw [Hz.out]; omega))
 have Hw1 := Lib.hid (Hw.out.trans (hb1.mono Hw.out.size))
 have H1 := Lib.hid (H.out.up hb1)
 have Hz1 : Hid (w.heap.size + 2 ≤ w1.heap.size) := by show _ ≤ _; have := hb1.size; have := Hz.out; omega
 clear hb1
 by_cases hc : p.check = 0
 ·have b1 : (p.check != 0) = false := by simpa using hc
  have Hc := Lib.hid hc
  clear hc
  obtain ⟨z0, z1, z2, z3, z4, z5, z6, z7, z8, z9, z10, z11⟩ := PBox.all HT1.out
  by_cases hs : p.no = 1099511627776
  ·have b2 : (p.no == 1099511627776) = true := by simpa using hs
   have Hr := Lib.hid (via_spent (r := r) Hc.out hs)
   have r := block_cell HR1.out
   have r0 := r 0; have r1 := r 1; have r2 := r 2; have r3 := r 3; have r4 := r 4; have r5 := r 5; have r6 := r 6; have r7 := r 7; have r8 := r 8; have r9 := r 9; have r10 := r 10; have r11 := r 11
   have rf := block_free HR1.out
   simp at r0 r1 r2 r3 r4 r5 r6 r7 r8 r9 r10 r11
   clear r
   clear hs
   go_wp2
   rw [Hr.out]
   refine bodyPost_ret (v := .tuple #[.agg #[.int .u8 0, .int .u8 0, .int .u8 0, .int .u8 0, .int .u8 0, .int .u8 0, .int .u8 0, .int .u8 0, .int .i64 0, .int .i64 0, .int .i64 0, .slice none 0 0], .int .i64 17]) (by simp [results, Tryz.results140, go_sem, r0, r1, r2, r3, r4, r5, r6, r7, r8, r9, r10, r11]) rfl (givesCh_no rfl ?_)
   repeat refine Below.setCell ?_ (by show w.heap.size ≤ w.heap.size + 1; omega) _
   exact Hw1.out
  ·have b2 : (p.no == 1099511627776) = false := by simpa using hs
   have Hs := Lib.hid hs
   clear hs
   go_wp2_with fail
   refine (pclone_any p A n c w1 H1.out).mono ?_
   rintro e w2 ⟨A2, n2, c2, rfl, ho2, hb2⟩
   have HR2 := Lib.hid (block_alloc (block_below HR1.out hb2 (by have := Hz1.out; omega)) (.cells #[.int .u8 p.nm.x0, .int .u8 p.nm.x1, .int .u8 p.nm.x2, .int .u8 p.nm.x3, .int .u8 p.nm.x4, .int .u8 p.nm.x5, .int .u8 p.nm.x6, .int .u8 p.nm.x7, .int .i64 p.no, .int .i64 p.h0, .int .i64 p.h1, .slice A2 n2 c2] 85))
   have Hw2 := Lib.hid ((Hw1.out.trans (hb2.mono Hw1.out.size)).alloc (Nat.le_trans Hw1.out.size hb2.size) (.cells #[.int .u8 p.nm.x0, .int .u8 p.nm.x1, .int .u8 p.nm.x2, .int .u8 p.nm.x3, .int .u8 p.nm.x4, .int .u8 p.nm.x5, .int .u8 p.nm.x6, .int .u8 p.nm.x7, .int .i64 p.no, .int .i64 p.h0, .int .i64 p.h1, .slice A2 n2 c2] 85))
   have HQ : Hid (PuO (w.heap.size + 2) w2.heap.size p A2 n2 c2 (w2.alloc (.cells #[.int .u8 p.nm.x0, .int .u8 p.nm.x1, .int .u8 p.nm.x2, .int .u8 p.nm.x3, .int .u8 p.nm.x4, .int .u8 p.nm.x5, .int .u8 p.nm.x6, .int .u8 p.nm.x7, .int .i64 p.no, .int .i64 p.h0, .int .i64 p.h1, .slice A2 n2 c2] 85))) :=
    ⟨heap_alloc_new _ _, (pown_down ho2 Hz1.out).alloc _, Nat.le_trans Hz1.out hb2.size⟩
   have Hz2 : Hid (w.heap.size + 2 ≤ w2.heap.size) := Nat.le_trans Hz1.out hb2.size
   clear hb2 ho2 z0 z1 z2 z3 z4 z5 z6 z7 z8 z9 z10 z11
   go_wp2_with fail
   refine (Hcall.out Hc.out w2.heap.size A2 n2 c2 _ HQ.out Hw2.out).mono ?_
   generalize (w2.alloc (.cells #[.int .u8 p.nm.x0, .int .u8 p.nm.x1, .int .u8 p.nm.x2, .int .u8 p.nm.x3, .int .u8 p.nm.x4, .int .u8 p.nm.x5, .int .u8 p.nm.x6, .int .u8 p.nm.x7, .int .i64 p.no, .int .i64 p.h0, .int .i64 p.h1, .slice A2 n2 c2] 85)) = w3 at *
   rintro e w4 ⟨rfl, hq4, hb4⟩
   have HR4 := Lib.hid (block_below HR2.out hb4 (by omega))
   have Hw4 := Lib.hid (Hw2.out.trans (hb4.mono (by omega)))
   have HQ4 := Lib.hid hq4
   have r := block_cell HR4.out
   have r0 := r 0; have r1 := r 1; have r2 := r 2; have r3 := r 3; have r4 := r 4; have r5 := r 5; have r6 := r 6; have r7 := r 7; have r8 := r 8; have r9 := r 9; have r10 := r 10; have r11 := r 11
   have rf := block_free HR4.out
   simp at r0 r1 r2 r3 r4 r5 r6 r7 r8 r9 r10 r11
   clear r
   clear hb4 hq4
   by_cases h3 : r.1 = 0
   ·have b3 : (r.1 != 0) = false := by simpa using h3
    have Hr := Lib.hid (via_good Hc.out Hs.out h3)
    obtain ⟨A4, n4, c4, hq⟩ := HQ4.out h3
    have HO := Lib.hid hq
    obtain ⟨z0, z1, z2, z3, z4, z5, z6, z7, z8, z9, z10, z11⟩ := PBox.all hq.blk
    have zf := block_free hq.blk
    obtain ⟨y0, y1⟩ : 0 ≤ r.2.no ∧ r.2.no ≤ 1099511627776 := by rw [Hno.out h3]; exact (check_iff.1 Hc.out).1
    have hne : w2.heap.size ≠ w.heap.size + 1 := by have := Hz2.out; omega
    have hne2 : w.heap.size + 1 ≠ w2.heap.size := by have := Hz2.out; omega
    have H3 := Lib.hid h3
    clear h3 hq
    go_wp2
    rw [Hr.out]
    refine bodyPost_ret (v := .tuple #[.agg #[.int .u8 r.2.nm.x0, .int .u8 r.2.nm.x1, .int .u8 r.2.nm.x2, .int .u8 r.2.nm.x3, .int .u8 r.2.nm.x4, .int .u8 r.2.nm.x5, .int .u8 r.2.nm.x6, .int .u8 r.2.nm.x7, .int .i64 (r.2.no + 1), .int .i64 r.2.h0, .int .i64 r.2.h1, .slice A4 n4 c4], .int .i64 0]) (by simp [results, Tryz.results140, go_sem, r0, r1, r2, r3, r4, r5, r6, r7, r8, r9, r10, r11]) rfl ⟨A4, n4, c4, rfl, ?_, ?_⟩
    ·refine pown_down (base := w.heap.size + 2) ?_ (by omega)
     repeat refine ownsRow_setCell_below ?_ (by show w.heap.size + 1 < _; omega) _
     exact own_set HO.out.own HO.out.blk (by decide) _ _
    ·repeat refine Below.setCell ?_ (by first | (show w.heap.size ≤ w.heap.size + 1; omega) | (show w.heap.size ≤ w2.heap.size; have := Hz2.out; omega)) _
     exact Hw4.out
   ·have b3 : (r.1 != 0) = true := by simpa using h3
    have Hr := Lib.hid (via_bad Hc.out Hs.out h3)
    clear h3
    go_wp2
    rw [Hr.out]
    refine bodyPost_ret (v := .tuple #[.agg #[.int .u8 0, .int .u8 0, .int .u8 0, .int .u8 0, .int .u8 0, .int .u8 0, .int .u8 0, .int .u8 0, .int .i64 0, .int .i64 0, .int .i64 0, .slice none 0 0], .int .i64 r.1]) (by simp [results, Tryz.results140, go_sem, r0, r1, r2, r3, r4, r5, r6, r7, r8, r9, r10, r11]) rfl (givesCh_no rfl ?_)
    repeat refine Below.setCell ?_ (by show w.heap.size ≤ w.heap.size + 1; omega) _
    exact Hw4.out
 ·have b1 : (p.check != 0) = true := by simpa using hc
  have Hr := Lib.hid (via_check (r := r) hc)
  have r := block_cell HR1.out
  have r0 := r 0; have r1 := r 1; have r2 := r 2; have r3 := r 3; have r4 := r 4; have r5 := r 5; have r6 := r 6; have r7 := r 7; have r8 := r 8; have r9 := r 9; have r10 := r 10; have r11 := r 11
  have rf := block_free HR1.out
  simp at r0 r1 r2 r3 r4 r5 r6 r7 r8 r9 r10 r11
  clear r
  clear hc
  go_wp2
  rw [Hr.out]
  refine bodyPost_ret (v := .tuple #[.agg #[.int .u8 0, .int .u8 0, .int .u8 0, .int .u8 0, .int .u8 0, .int .u8 0, .int .u8 0, .int .u8 0, .int .i64 0, .int .i64 0, .int .i64 0, .slice none 0 0], .int .i64 3]) (by simp [results, Tryz.results140, go_sem, r0, r1, r2, r3, r4, r5, r6, r7, r8, r9, r10, r11]) rfl (givesCh_no rfl ?_)
  repeat refine Below.setCell ?_ (by show w.heap.size ≤ w.heap.size + 1; omega) _
  exact Hw1.out
set_option maxRecDepth 100000 in
set_option maxHeartbeats 2000000 in
theorem chFree (p : Pu) (A : Option Addr) (n c : Nat) (V1 V2 : Value) (r : Int × Pu) (w : World) (h : PuV.At p A n c w)
  (hcall : p.check = 0 → ∀ g A2 n2 c2 w2, PuO (w.heap.size + 2) g p A2 n2 c2 w2 → Below w.heap.size w w2 → Calls Tryz.prog 141 #[.pointer (some ⟨g, 0, none⟩), V1, V2] w2 (GivesQ (w.heap.size + 2) g w2 r))
  (hno : r.1 = 0 → r.2.no = p.no) :
  Calls Tryz.prog 140 #[.agg #[.int .u8 p.nm.x0, .int .u8 p.nm.x1, .int .u8 p.nm.x2, .int .u8 p.nm.x3, .int .u8 p.nm.x4, .int .u8 p.nm.x5, .int .u8 p.nm.x6, .int .u8 p.nm.x7, .int .i64 p.no, .int .i64 p.h0, .int .i64 p.h1, .slice A n c], .func (.func 141) #[] #[V1, V2]] w (GivesCh (p.via r) w) := by
 have HT : Hid (((w.alloc (.cells #[.int .u8 p.nm.x0, .int .u8 p.nm.x1, .int .u8 p.nm.x2, .int .u8 p.nm.x3, .int .u8 p.nm.x4, .int .u8 p.nm.x5, .int .u8 p.nm.x6, .int .u8 p.nm.x7, .int .i64 p.no, .int .i64 p.h0, .int .i64 p.h1, .slice A n c] 85)).alloc (.cells #[.int .u8 0, .int .u8 0, .int .u8 0, .int .u8 0, .int .u8 0, .int .u8 0, .int .u8 0, .int .u8 0, .int .i64 0, .int .i64 0, .int .i64 0, .slice none 0 0] 85)).heap[w.heap.size]? = some (.cells #[.int .u8 p.nm.x0, .int .u8 p.nm.x1, .int .u8 p.nm.x2, .int .u8 p.nm.x3, .int .u8 p.nm.x4, .int .u8 p.nm.x5, .int .u8 p.nm.x6, .int .u8 p.nm.x7, .int .i64 p.no, .int .i64 p.h0, .int .i64 p.h1, .slice A n c] 85 (0, 0))) := block_alloc (heap_alloc_new _ _) _
 have HR : Hid (((w.alloc (.cells #[.int .u8 p.nm.x0, .int .u8 p.nm.x1, .int .u8 p.nm.x2, .int .u8 p.nm.x3, .int .u8 p.nm.x4, .int .u8 p.nm.x5, .int .u8 p.nm.x6, .int .u8 p.nm.x7, .int .i64 p.no, .int .i64 p.h0, .int .i64 p.h1, .slice A n c] 85)).alloc (.cells #[.int .u8 0, .int .u8 0, .int .u8 0, .int .u8 0, .int .u8 0, .int .u8 0, .int .u8 0, .int .u8 0, .int .i64 0, .int .i64 0, .int .i64 0, .slice none 0 0] 85)).heap[w.heap.size + 1]? = some (.cells #[.int .u8 0, .int .u8 0, .int .u8 0, .int .u8 0, .int .u8 0, .int .u8 0, .int .u8 0, .int .u8 0, .int .i64 0, .int .i64 0, .int .i64 0, .slice none 0 0] 85 (0, 0))) := alloc_at (by simp)
 have Hw := Lib.hid (below_two w (.cells #[.int .u8 p.nm.x0, .int .u8 p.nm.x1, .int .u8 p.nm.x2, .int .u8 p.nm.x3, .int .u8 p.nm.x4, .int .u8 p.nm.x5, .int .u8 p.nm.x6, .int .u8 p.nm.x7, .int .i64 p.no, .int .i64 p.h0, .int .i64 p.h1, .slice A n c] 85) (.cells #[.int .u8 0, .int .u8 0, .int .u8 0, .int .u8 0, .int .u8 0, .int .u8 0, .int .u8 0, .int .u8 0, .int .i64 0, .int .i64 0, .int .i64 0, .slice none 0 0] 85))
 have Hz : Hid (((w.alloc (.cells #[.int .u8 p.nm.x0, .int .u8 p.nm.x1, .int .u8 p.nm.x2, .int .u8 p.nm.x3, .int .u8 p.nm.x4, .int .u8 p.nm.x5, .int .u8 p.nm.x6, .int .u8 p.nm.x7, .int .i64 p.no, .int .i64 p.h0, .int .i64 p.h1, .slice A n c] 85)).alloc (.cells #[.int .u8 0, .int .u8 0, .int .u8 0, .int .u8 0, .int .u8 0, .int .u8 0, .int .u8 0, .int .u8 0, .int .i64 0, .int .i64 0, .int .i64 0, .slice none 0 0] 85)).heap.size = w.heap.size + 2) := by show _ = _; simp
 have H := Lib.hid (h.up Hw.out)
 have Hcall := Lib.hid hcall
 have Hno := Lib.hid hno
 clear h hcall hno
 go_enter Tryz.func140, Tryz.ntmps140
 go_wp2_with fail
 refine (pcheck_any p A n c _ H.out).mono ?_
 generalize ((w.alloc (.cells #[.int .u8 p.nm.x0, .int .u8 p.nm.x1, .int .u8 p.nm.x2, .int .u8 p.nm.x3, .int .u8 p.nm.x4, .int .u8 p.nm.x5, .int .u8 p.nm.x6, .int .u8 p.nm.x7, .int .i64 p.no, .int .i64 p.h0, .int .i64 p.h1, .slice A n c] 85)).alloc (.cells #[.int .u8 0, .int .u8 0, .int .u8 0, .int .u8 0, .int .u8 0, .int .u8 0, .int .u8 0, .int .u8 0, .int .i64 0, .int .i64 0, .int .i64 0, .slice none 0 0] 85)) = w0 at *
 rintro e w1 ⟨rfl, hb1⟩
 have HT1 := Lib.hid (block_below HT.out hb1 (by rw [Hz.out]; omega))
 have HR1 := Lib.hid (block_below HR.out hb1 (by rw [Hz.out]; omega))
 have Hw1 := Lib.hid (Hw.out.trans (hb1.mono Hw.out.size))
 have H1 := Lib.hid (H.out.up hb1)
 have Hz1 : Hid (w.heap.size + 2 ≤ w1.heap.size) := by show _ ≤ _; have := hb1.size; have := Hz.out; omega
 clear hb1
 by_cases hc : p.check = 0
 ·have b1 : (p.check != 0) = false := by simpa using hc
  have Hc := Lib.hid hc
  clear hc
  obtain ⟨z0, z1, z2, z3, z4, z5, z6, z7, z8, z9, z10, z11⟩ := PBox.all HT1.out
  by_cases hs : p.no = 1099511627776
  ·have b2 : (p.no == 1099511627776) = true := by simpa using hs
   have Hr := Lib.hid (via_spent (r := r) Hc.out hs)
   have r := block_cell HR1.out
   have r0 := r 0; have r1 := r 1; have r2 := r 2; have r3 := r 3; have r4 := r 4; have r5 := r 5; have r6 := r 6; have r7 := r 7; have r8 := r 8; have r9 := r 9; have r10 := r 10; have r11 := r 11
   have rf := block_free HR1.out
   simp at r0 r1 r2 r3 r4 r5 r6 r7 r8 r9 r10 r11
   clear r
   clear hs
   go_wp2
   rw [Hr.out]
   refine bodyPost_ret (v := .tuple #[.agg #[.int .u8 0, .int .u8 0, .int .u8 0, .int .u8 0, .int .u8 0, .int .u8 0, .int .u8 0, .int .u8 0, .int .i64 0, .int .i64 0, .int .i64 0, .slice none 0 0], .int .i64 17]) (by simp [results, Tryz.results140, go_sem, r0, r1, r2, r3, r4, r5, r6, r7, r8, r9, r10, r11]) rfl (givesCh_no rfl ?_)
   repeat refine Below.setCell ?_ (by show w.heap.size ≤ w.heap.size + 1; omega) _
   exact Hw1.out
  ·have b2 : (p.no == 1099511627776) = false := by simpa using hs
   have Hs := Lib.hid hs
   clear hs
   go_wp2_with fail
   refine (pclone_any p A n c w1 H1.out).mono ?_
   rintro e w2 ⟨A2, n2, c2, rfl, ho2, hb2⟩
   have HR2 := Lib.hid (block_alloc (block_below HR1.out hb2 (by have := Hz1.out; omega)) (.cells #[.int .u8 p.nm.x0, .int .u8 p.nm.x1, .int .u8 p.nm.x2, .int .u8 p.nm.x3, .int .u8 p.nm.x4, .int .u8 p.nm.x5, .int .u8 p.nm.x6, .int .u8 p.nm.x7, .int .i64 p.no, .int .i64 p.h0, .int .i64 p.h1, .slice A2 n2 c2] 85))
   have Hw2 := Lib.hid ((Hw1.out.trans (hb2.mono Hw1.out.size)).alloc (Nat.le_trans Hw1.out.size hb2.size) (.cells #[.int .u8 p.nm.x0, .int .u8 p.nm.x1, .int .u8 p.nm.x2, .int .u8 p.nm.x3, .int .u8 p.nm.x4, .int .u8 p.nm.x5, .int .u8 p.nm.x6, .int .u8 p.nm.x7, .int .i64 p.no, .int .i64 p.h0, .int .i64 p.h1, .slice A2 n2 c2] 85))
   have HQ : Hid (PuO (w.heap.size + 2) w2.heap.size p A2 n2 c2 (w2.alloc (.cells #[.int .u8 p.nm.x0, .int .u8 p.nm.x1, .int .u8 p.nm.x2, .int .u8 p.nm.x3, .int .u8 p.nm.x4, .int .u8 p.nm.x5, .int .u8 p.nm.x6, .int .u8 p.nm.x7, .int .i64 p.no, .int .i64 p.h0, .int .i64 p.h1, .slice A2 n2 c2] 85))) :=
    ⟨heap_alloc_new _ _, (pown_down ho2 Hz1.out).alloc _, Nat.le_trans Hz1.out hb2.size⟩
   have Hz2 : Hid (w.heap.size + 2 ≤ w2.heap.size) := Nat.le_trans Hz1.out hb2.size
   clear hb2 ho2 z0 z1 z2 z3 z4 z5 z6 z7 z8 z9 z10 z11
   go_wp2_with fail
   refine (Hcall.out Hc.out w2.heap.size A2 n2 c2 _ HQ.out Hw2.out).mono ?_
   generalize (w2.alloc (.cells #[.int .u8 p.nm.x0, .int .u8 p.nm.x1, .int .u8 p.nm.x2, .int .u8 p.nm.x3, .int .u8 p.nm.x4, .int .u8 p.nm.x5, .int .u8 p.nm.x6, .int .u8 p.nm.x7, .int .i64 p.no, .int .i64 p.h0, .int .i64 p.h1, .slice A2 n2 c2] 85)) = w3 at *
   rintro e w4 ⟨rfl, hq4, hb4⟩
   have HR4 := Lib.hid (block_below HR2.out hb4 (by omega))
   have Hw4 := Lib.hid (Hw2.out.trans (hb4.mono (by omega)))
   have HQ4 := Lib.hid hq4
   have r := block_cell HR4.out
   have r0 := r 0; have r1 := r 1; have r2 := r 2; have r3 := r 3; have r4 := r 4; have r5 := r 5; have r6 := r 6; have r7 := r 7; have r8 := r 8; have r9 := r 9; have r10 := r 10; have r11 := r 11
   have rf := block_free HR4.out
   simp at r0 r1 r2 r3 r4 r5 r6 r7 r8 r9 r10 r11
   clear r
   clear hb4 hq4
   by_cases h3 : r.1 = 0
   ·have b3 : (r.1 != 0) = false := by simpa using h3
    have Hr := Lib.hid (via_good Hc.out Hs.out h3)
    obtain ⟨A4, n4, c4, hq⟩ := HQ4.out h3
    have HO := Lib.hid hq
    obtain ⟨z0, z1, z2, z3, z4, z5, z6, z7, z8, z9, z10, z11⟩ := PBox.all hq.blk
    have zf := block_free hq.blk
    obtain ⟨y0, y1⟩ : 0 ≤ r.2.no ∧ r.2.no ≤ 1099511627776 := by rw [Hno.out h3]; exact (check_iff.1 Hc.out).1
    have hne : w2.heap.size ≠ w.heap.size + 1 := by have := Hz2.out; omega
    have hne2 : w.heap.size + 1 ≠ w2.heap.size := by have := Hz2.out; omega
    have H3 := Lib.hid h3
    clear h3 hq
    go_wp2
    rw [Hr.out]
    refine bodyPost_ret (v := .tuple #[.agg #[.int .u8 r.2.nm.x0, .int .u8 r.2.nm.x1, .int .u8 r.2.nm.x2, .int .u8 r.2.nm.x3, .int .u8 r.2.nm.x4, .int .u8 r.2.nm.x5, .int .u8 r.2.nm.x6, .int .u8 r.2.nm.x7, .int .i64 (r.2.no + 1), .int .i64 r.2.h0, .int .i64 r.2.h1, .slice A4 n4 c4], .int .i64 0]) (by simp [results, Tryz.results140, go_sem, r0, r1, r2, r3, r4, r5, r6, r7, r8, r9, r10, r11]) rfl ⟨A4, n4, c4, rfl, ?_, ?_⟩
    ·refine pown_down (base := w.heap.size + 2) ?_ (by omega)
     repeat refine ownsRow_setCell_below ?_ (by show w.heap.size + 1 < _; omega) _
     exact own_set HO.out.own HO.out.blk (by decide) _ _
    ·repeat refine Below.setCell ?_ (by first | (show w.heap.size ≤ w.heap.size + 1; omega) | (show w.heap.size ≤ w2.heap.size; have := Hz2.out; omega)) _
     exact Hw4.out
   ·have b3 : (r.1 != 0) = true := by simpa using h3
    have Hr := Lib.hid (via_bad Hc.out Hs.out h3)
    clear h3
    go_wp2
    rw [Hr.out]
    refine bodyPost_ret (v := .tuple #[.agg #[.int .u8 0, .int .u8 0, .int .u8 0, .int .u8 0, .int .u8 0, .int .u8 0, .int .u8 0, .int .u8 0, .int .i64 0, .int .i64 0, .int .i64 0, .slice none 0 0], .int .i64 r.1]) (by simp [results, Tryz.results140, go_sem, r0, r1, r2, r3, r4, r5, r6, r7, r8, r9, r10, r11]) rfl (givesCh_no rfl ?_)
    repeat refine Below.setCell ?_ (by show w.heap.size ≤ w.heap.size + 1; omega) _
    exact Hw4.out
 ·have b1 : (p.check != 0) = true := by simpa using hc
  have Hr := Lib.hid (via_check (r := r) hc)
  have r := block_cell HR1.out
  have r0 := r 0; have r1 := r 1; have r2 := r 2; have r3 := r 3; have r4 := r 4; have r5 := r 5; have r6 := r 6; have r7 := r 7; have r8 := r 8; have r9 := r 9; have r10 := r 10; have r11 := r 11
  have rf := block_free HR1.out
  simp at r0 r1 r2 r3 r4 r5 r6 r7 r8 r9 r10 r11
  clear r
  clear hc
  go_wp2
  rw [Hr.out]
  refine bodyPost_ret (v := .tuple #[.agg #[.int .u8 0, .int .u8 0, .int .u8 0, .int .u8 0, .int .u8 0, .int .u8 0, .int .u8 0, .int .u8 0, .int .i64 0, .int .i64 0, .int .i64 0, .slice none 0 0], .int .i64 3]) (by simp [results, Tryz.results140, go_sem, r0, r1, r2, r3, r4, r5, r6, r7, r8, r9, r10, r11]) rfl (givesCh_no rfl ?_)
  repeat refine Below.setCell ?_ (by show w.heap.size ≤ w.heap.size + 1; omega) _
  exact Hw1.out
theorem add_no (p : Pu) (i n : Int) : (p.add i n).no = p.no := by unfold Pu.add; split <;> rfl
theorem part_no (p : Pu) (k : Nat) (o : Int) : (p.part k o).no = p.no := by unfold Pu.part; simp [add_no]
theorem payI_no (p : Pu) (fr am : Int) (_h : (p.payI fr am).1 = 0) : (p.payI fr am).2.no = p.no := by
 unfold Pu.payI at _h ⊢
 split
 ·rfl
 ·split
  ·split
   ·rfl
   ·simp [add_no]
  ·rfl
theorem holdI_no (p : Pu) (d : Hd) (_h : (p.holdI d).1 = 0) : (p.holdI d).2.no = p.no := by
 unfold Pu.holdI at _h ⊢
 split
 ·rfl
 ·split
  ·split
   ·rfl
   ·split
    ·rfl
    ·split
     ·rfl
     ·simp [add_no]
  ·rfl
theorem freeI_no (p : Pu) (n : D8) (o : Int) (_h : (p.freeI n o).1 = 0) : (p.freeI n o).2.no = p.no := by
 unfold Pu.freeI at _h ⊢
 split
 ·rfl
 ·split
  ·rfl
  ·simp [part_no]
theorem backI_no (p : Pu) (n : D8) (o : Int) (_h : (p.backI n o).1 = 0) : (p.backI n o).2.no = p.no := by
 unfold Pu.backI at _h ⊢
 split
 ·rfl
 ·split
  ·rfl
  ·simp [part_no]
end Go.Proofs.YthhiookcknnmdaaGreat
