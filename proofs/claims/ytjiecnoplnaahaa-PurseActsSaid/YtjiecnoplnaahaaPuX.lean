/- The walk of the reference's Pay of a purse. Conditions: bounds. -/
import Derived.Test.YtjiecnoplnaahaaPuW
import Derived.Deep.DeepCutAuto
import Derived.Deep.RegionLaw
namespace Go.Proofs.Ytjiecnoplnaahaa
open Go.RowKit Go.Lib


theorem nextP_no {p : Pu} (h : p.next ≠ 0) : p.nextP = (p.next, pu0) := by unfold Pu.nextP; rw [if_neg h]
theorem nextP_yes {p : Pu} (h : p.next = 0) : p.nextP = (0, p.more) := by unfold Pu.nextP; rw [if_pos h]
theorem pay_next {p : Pu} {fr am : Int} (h : p.next ≠ 0) : p.pay fr am = (p.next, pu0) := by unfold Pu.pay; rw [if_neg h]
set_option maxRecDepth 100000 in
set_option maxHeartbeats 4000000 in
theorem payr_any (p : Pu) (A : Option Addr) (n c : Nat) (fr am : Int) (w : World) (h : PuV.At p A n c w) :
    Calls Try.prog 42 #[.agg #[.int .u8 (p.nm.x0 : Int), .int .u8 (p.nm.x1 : Int), .int .u8 (p.nm.x2 : Int), .int .u8 (p.nm.x3 : Int), .int .u8 (p.nm.x4 : Int), .int .u8 (p.nm.x5 : Int), .int .u8 (p.nm.x6 : Int), .int .u8 (p.nm.x7 : Int), .int .i64 p.no, .int .i64 p.h0, .int .i64 p.h1, .slice A n c], .int .i64 fr, .int .i64 am] w (GivesChR (p.pay fr am) w) := by
  have HT : Hid (((w.alloc (.cells #[.int .u8 (p.nm.x0 : Int), .int .u8 (p.nm.x1 : Int), .int .u8 (p.nm.x2 : Int), .int .u8 (p.nm.x3 : Int), .int .u8 (p.nm.x4 : Int), .int .u8 (p.nm.x5 : Int), .int .u8 (p.nm.x6 : Int), .int .u8 (p.nm.x7 : Int), .int .i64 p.no, .int .i64 p.h0, .int .i64 p.h1, .slice A n c] 26)).alloc (.cells #[.int .u8 0, .int .u8 0, .int .u8 0, .int .u8 0, .int .u8 0, .int .u8 0, .int .u8 0, .int .u8 0, .int .i64 0, .int .i64 0, .int .i64 0, .slice none 0 0] 26)).heap[w.heap.size]? = some (.cells #[.int .u8 (p.nm.x0 : Int), .int .u8 (p.nm.x1 : Int), .int .u8 (p.nm.x2 : Int), .int .u8 (p.nm.x3 : Int), .int .u8 (p.nm.x4 : Int), .int .u8 (p.nm.x5 : Int), .int .u8 (p.nm.x6 : Int), .int .u8 (p.nm.x7 : Int), .int .i64 p.no, .int .i64 p.h0, .int .i64 p.h1, .slice A n c] 26 (0, 0))) := block_alloc (heap_alloc_new _ _) _
  have HR : Hid (((w.alloc (.cells #[.int .u8 (p.nm.x0 : Int), .int .u8 (p.nm.x1 : Int), .int .u8 (p.nm.x2 : Int), .int .u8 (p.nm.x3 : Int), .int .u8 (p.nm.x4 : Int), .int .u8 (p.nm.x5 : Int), .int .u8 (p.nm.x6 : Int), .int .u8 (p.nm.x7 : Int), .int .i64 p.no, .int .i64 p.h0, .int .i64 p.h1, .slice A n c] 26)).alloc (.cells #[.int .u8 0, .int .u8 0, .int .u8 0, .int .u8 0, .int .u8 0, .int .u8 0, .int .u8 0, .int .u8 0, .int .i64 0, .int .i64 0, .int .i64 0, .slice none 0 0] 26)).heap[w.heap.size + 1]? = some (.cells #[.int .u8 0, .int .u8 0, .int .u8 0, .int .u8 0, .int .u8 0, .int .u8 0, .int .u8 0, .int .u8 0, .int .i64 0, .int .i64 0, .int .i64 0, .slice none 0 0] 26 (0, 0))) := alloc_at (by simp)
  have Hw := Lib.hid (below_two w (.cells #[.int .u8 (p.nm.x0 : Int), .int .u8 (p.nm.x1 : Int), .int .u8 (p.nm.x2 : Int), .int .u8 (p.nm.x3 : Int), .int .u8 (p.nm.x4 : Int), .int .u8 (p.nm.x5 : Int), .int .u8 (p.nm.x6 : Int), .int .u8 (p.nm.x7 : Int), .int .i64 p.no, .int .i64 p.h0, .int .i64 p.h1, .slice A n c] 26) (.cells #[.int .u8 0, .int .u8 0, .int .u8 0, .int .u8 0, .int .u8 0, .int .u8 0, .int .u8 0, .int .u8 0, .int .i64 0, .int .i64 0, .int .i64 0, .slice none 0 0] 26))
  have Hz : Hid (((w.alloc (.cells #[.int .u8 (p.nm.x0 : Int), .int .u8 (p.nm.x1 : Int), .int .u8 (p.nm.x2 : Int), .int .u8 (p.nm.x3 : Int), .int .u8 (p.nm.x4 : Int), .int .u8 (p.nm.x5 : Int), .int .u8 (p.nm.x6 : Int), .int .u8 (p.nm.x7 : Int), .int .i64 p.no, .int .i64 p.h0, .int .i64 p.h1, .slice A n c] 26)).alloc (.cells #[.int .u8 0, .int .u8 0, .int .u8 0, .int .u8 0, .int .u8 0, .int .u8 0, .int .u8 0, .int .u8 0, .int .i64 0, .int .i64 0, .int .i64 0, .slice none 0 0] 26)).heap.size = w.heap.size + 2) := by show _ = _; simp
  have H := Lib.hid (h.up Hw.out)
  clear h
  go_enter Try.func42, Try.ntmps42
  go_wp2_with fail
  refine (nextr_any p A n c _ H.out).mono ?_
  generalize ((w.alloc (.cells #[.int .u8 (p.nm.x0 : Int), .int .u8 (p.nm.x1 : Int), .int .u8 (p.nm.x2 : Int), .int .u8 (p.nm.x3 : Int), .int .u8 (p.nm.x4 : Int), .int .u8 (p.nm.x5 : Int), .int .u8 (p.nm.x6 : Int), .int .u8 (p.nm.x7 : Int), .int .i64 p.no, .int .i64 p.h0, .int .i64 p.h1, .slice A n c] 26)).alloc (.cells #[.int .u8 0, .int .u8 0, .int .u8 0, .int .u8 0, .int .u8 0, .int .u8 0, .int .u8 0, .int .u8 0, .int .i64 0, .int .i64 0, .int .i64 0, .slice none 0 0] 26)) = w0 at *
  generalize hnp : p.nextP = np at *
  have Hnp := Lib.hid hnp
  clear hnp
  obtain ⟨en, q⟩ := np
  rintro e w1 ⟨A1, n1, c1, rfl, ho1, hb1⟩
  simp only at ho1
  have HT2 := Lib.hid (block_alloc (block_below HT.out hb1 (by rw [Hz.out]; omega)) (.cells #[.int .u8 (q.nm.x0 : Int), .int .u8 (q.nm.x1 : Int), .int .u8 (q.nm.x2 : Int), .int .u8 (q.nm.x3 : Int), .int .u8 (q.nm.x4 : Int), .int .u8 (q.nm.x5 : Int), .int .u8 (q.nm.x6 : Int), .int .u8 (q.nm.x7 : Int), .int .i64 q.no, .int .i64 q.h0, .int .i64 q.h1, .slice A1 n1 c1] 26))
  have HR2 := Lib.hid (block_alloc (block_below HR.out hb1 (by rw [Hz.out]; omega)) (.cells #[.int .u8 (q.nm.x0 : Int), .int .u8 (q.nm.x1 : Int), .int .u8 (q.nm.x2 : Int), .int .u8 (q.nm.x3 : Int), .int .u8 (q.nm.x4 : Int), .int .u8 (q.nm.x5 : Int), .int .u8 (q.nm.x6 : Int), .int .u8 (q.nm.x7 : Int), .int .i64 q.no, .int .i64 q.h0, .int .i64 q.h1, .slice A1 n1 c1] 26))
  have HQ2 := Lib.hid (heap_alloc_new w1 (.cells #[.int .u8 (q.nm.x0 : Int), .int .u8 (q.nm.x1 : Int), .int .u8 (q.nm.x2 : Int), .int .u8 (q.nm.x3 : Int), .int .u8 (q.nm.x4 : Int), .int .u8 (q.nm.x5 : Int), .int .u8 (q.nm.x6 : Int), .int .u8 (q.nm.x7 : Int), .int .i64 q.no, .int .i64 q.h0, .int .i64 q.h1, .slice A1 n1 c1] 26))
  have hs1 : w.heap.size + 2 ≤ w1.heap.size := by have := hb1.size; rw [Hz.out] at this; exact this
  have Hw2 := Lib.hid ((Hw.out.trans (hb1.mono Hw.out.size)).alloc (by omega) (.cells #[.int .u8 (q.nm.x0 : Int), .int .u8 (q.nm.x1 : Int), .int .u8 (q.nm.x2 : Int), .int .u8 (q.nm.x3 : Int), .int .u8 (q.nm.x4 : Int), .int .u8 (q.nm.x5 : Int), .int .u8 (q.nm.x6 : Int), .int .u8 (q.nm.x7 : Int), .int .i64 q.no, .int .i64 q.h0, .int .i64 q.h1, .slice A1 n1 c1] 26))
  have Ho2 := Lib.hid ((pown_down ho1 (show w.heap.size + 2 ≤ w0.heap.size by rw [Hz.out]; exact Nat.le_refl _)).alloc (.cells #[.int .u8 (q.nm.x0 : Int), .int .u8 (q.nm.x1 : Int), .int .u8 (q.nm.x2 : Int), .int .u8 (q.nm.x3 : Int), .int .u8 (q.nm.x4 : Int), .int .u8 (q.nm.x5 : Int), .int .u8 (q.nm.x6 : Int), .int .u8 (q.nm.x7 : Int), .int .i64 q.no, .int .i64 q.h0, .int .i64 q.h1, .slice A1 n1 c1] 26))
  clear hb1 ho1
  go_upto_region 2 with fail
  generalize (w1.alloc (.cells #[.int .u8 (q.nm.x0 : Int), .int .u8 (q.nm.x1 : Int), .int .u8 (q.nm.x2 : Int), .int .u8 (q.nm.x3 : Int), .int .u8 (q.nm.x4 : Int), .int .u8 (q.nm.x5 : Int), .int .u8 (q.nm.x6 : Int), .int .u8 (q.nm.x7 : Int), .int .i64 q.no, .int .i64 q.h0, .int .i64 q.h1, .slice A1 n1 c1] 26)) = w2 at *
  obtain ⟨z0, z1, z2, z3, z4, z5, z6, z7, z8, z9, z10, z11⟩ := PBox.all HT2.out
  have r := block_cell HR2.out
  have r0 := r 0; have r1 := r 1; have r2 := r 2; have r3 := r 3; have r4 := r 4; have r5 := r 5; have r6 := r 6; have r7 := r 7; have r8 := r 8; have r9 := r 9; have r10 := r 10; have r11 := r 11
  have rf := block_free HR2.out
  simp at r0 r1 r2 r3 r4 r5 r6 r7 r8 r9 r10 r11
  clear r
  by_cases hn : p.next = 0
  · have hq : (en, q) = (0, ⟨p.nm, p.no + 1, p.h0, p.h1, p.held⟩) := by rw [← Hnp.out, nextP_yes hn]; rfl
    injection hq with hq1 hq2
    subst hq1
    subst hq2
    simp only at *
    obtain ⟨x0, x1, x2, x3, x4, x5, x6, x7, x8, x9, x10, x11⟩ := PBox.all (p := (⟨p.nm, p.no + 1, p.h0, p.h1, p.held⟩ : Pu)) HQ2.out
    simp only at x0 x1 x2 x3 x4 x5 x6 x7 x8 x9 x10 x11
    have xf := block_free HQ2.out
    have hck := check_iff.1 (next_ok hn).1
    obtain ⟨_, ⟨u0, u1⟩, ⟨u2, u3⟩, _⟩ := hck
    have Hn := Lib.hid hn
    have hne1 : w.heap.size + 1 ≠ w1.heap.size := by omega
    have hne2 : w1.heap.size ≠ w.heap.size + 1 := by omega
    clear hn Hnp
    by_cases h0 : fr = 0
    · subst h0
      by_cases hp : posB am = true
      · obtain ⟨m0, m1⟩ := posB_iff.1 hp
        by_cases hf : p.h0 < am
        · have hf' : decide (p.h0 < am) = true := decide_eq_true hf
          have Hr : Hid (p.pay 0 am = (21, pu0)) := by show _ = _; unfold Pu.pay; rw [if_pos Hn.out, if_neg (by omega), if_pos hp, if_pos (show p.have_ 0 < am from hf)]
          clear hf
          go_wp2_with (go_at_call 57; refine (pos_any _ _).mono ?_; rintro e w' ⟨rfl, rfl⟩)
          rw [Hr.out]
          refine bodyPost_ret (v := .tuple #[.agg #[.int .u8 0, .int .u8 0, .int .u8 0, .int .u8 0, .int .u8 0, .int .u8 0, .int .u8 0, .int .u8 0, .int .i64 0, .int .i64 0, .int .i64 0, .slice none 0 0], .int .i64 21]) (by simp [results, Try.results42, go_sem, r0, r1, r2, r3, r4, r5, r6, r7, r8, r9, r10, r11]) rfl (givesChR_no rfl ?_)
          repeat refine Below.setCell ?_ (by show w.heap.size ≤ w.heap.size + 1; omega) _
          exact Hw2.out
        · have hf' : decide (p.h0 < am) = false := decide_eq_false hf
          have hf2 : am ≤ p.h0 := by omega
          have Hr : Hid (p.pay 0 am = (0, ⟨p.nm, p.no + 1, p.h0 - am, p.h1 + am, p.held⟩)) := by show _ = _; unfold Pu.pay; rw [if_pos Hn.out, if_neg (by omega), if_pos hp, if_neg (show ¬ p.have_ 0 < am from hf)]; rfl
          clear hf
          go_wp2_with (go_at_call 57; refine (pos_any _ _).mono ?_; rintro e w' ⟨rfl, rfl⟩)
          rw [Hr.out]
          refine bodyPost_ret (v := .tuple #[.agg #[.int .u8 (p.nm.x0 : Int), .int .u8 (p.nm.x1 : Int), .int .u8 (p.nm.x2 : Int), .int .u8 (p.nm.x3 : Int), .int .u8 (p.nm.x4 : Int), .int .u8 (p.nm.x5 : Int), .int .u8 (p.nm.x6 : Int), .int .u8 (p.nm.x7 : Int), .int .i64 (p.no + 1), .int .i64 (p.h0 - am), .int .i64 (p.h1 + am), .slice A1 n1 c1], .int .i64 0]) (by simp [results, Try.results42, go_sem, r0, r1, r2, r3, r4, r5, r6, r7, r8, r9, r10, r11, hne1, hne2]) rfl ⟨A1, n1, c1, rfl, ?_, ?_⟩
          · refine pown_down (base := w.heap.size + 2) ?_ (by omega)
            repeat (first | refine ownsRow_setCell_below ?_ (by show w.heap.size + 1 < _; omega) _)
            refine own_set (own_set Ho2.out HQ2.out (by decide) _ _) (Joins.block_setCell HQ2.out _) (by decide) _ _
          · repeat refine Below.setCell ?_ (by first | (show w.heap.size ≤ w.heap.size + 1; omega) | (show w.heap.size ≤ w1.heap.size; omega)) _
            exact Hw2.out
      · have hp' : posB am = false := by simpa using hp
        have Hr : Hid (p.pay 0 am = (2, pu0)) := by show _ = _; unfold Pu.pay; rw [if_pos Hn.out, if_neg (by omega), if_neg hp]
        clear hp
        go_wp2_with (go_at_call 57; refine (pos_any _ _).mono ?_; rintro e w' ⟨rfl, rfl⟩)
        rw [Hr.out]
        refine bodyPost_ret (v := .tuple #[.agg #[.int .u8 0, .int .u8 0, .int .u8 0, .int .u8 0, .int .u8 0, .int .u8 0, .int .u8 0, .int .u8 0, .int .i64 0, .int .i64 0, .int .i64 0, .slice none 0 0], .int .i64 2]) (by simp [results, Try.results42, go_sem, r0, r1, r2, r3, r4, r5, r6, r7, r8, r9, r10, r11]) rfl (givesChR_no rfl ?_)
        repeat refine Below.setCell ?_ (by show w.heap.size ≤ w.heap.size + 1; omega) _
        exact Hw2.out
    · by_cases h1 : fr = 1
      · subst h1
        by_cases hp : posB am = true
        · obtain ⟨m0, m1⟩ := posB_iff.1 hp
          by_cases hf : p.h1 < am
          · have hf' : decide (p.h1 < am) = true := decide_eq_true hf
            have Hr : Hid (p.pay 1 am = (21, pu0)) := by show _ = _; unfold Pu.pay; rw [if_pos Hn.out, if_neg (by omega), if_pos hp, if_pos (show p.have_ 1 < am from hf)]
            clear hf
            go_wp2_with (go_at_call 57; refine (pos_any _ _).mono ?_; rintro e w' ⟨rfl, rfl⟩)
            rw [Hr.out]
            refine bodyPost_ret (v := .tuple #[.agg #[.int .u8 0, .int .u8 0, .int .u8 0, .int .u8 0, .int .u8 0, .int .u8 0, .int .u8 0, .int .u8 0, .int .i64 0, .int .i64 0, .int .i64 0, .slice none 0 0], .int .i64 21]) (by simp [results, Try.results42, go_sem, r0, r1, r2, r3, r4, r5, r6, r7, r8, r9, r10, r11]) rfl (givesChR_no rfl ?_)
            repeat refine Below.setCell ?_ (by show w.heap.size ≤ w.heap.size + 1; omega) _
            exact Hw2.out
          · have hf' : decide (p.h1 < am) = false := decide_eq_false hf
            have hf2 : am ≤ p.h1 := by omega
            have Hr : Hid (p.pay 1 am = (0, ⟨p.nm, p.no + 1, p.h0 + am, p.h1 - am, p.held⟩)) := by show _ = _; unfold Pu.pay; rw [if_pos Hn.out, if_neg (by omega), if_pos hp, if_neg (show ¬ p.have_ 1 < am from hf)]; rfl
            clear hf
            go_wp2_with (go_at_call 57; refine (pos_any _ _).mono ?_; rintro e w' ⟨rfl, rfl⟩)
            rw [Hr.out]
            refine bodyPost_ret (v := .tuple #[.agg #[.int .u8 (p.nm.x0 : Int), .int .u8 (p.nm.x1 : Int), .int .u8 (p.nm.x2 : Int), .int .u8 (p.nm.x3 : Int), .int .u8 (p.nm.x4 : Int), .int .u8 (p.nm.x5 : Int), .int .u8 (p.nm.x6 : Int), .int .u8 (p.nm.x7 : Int), .int .i64 (p.no + 1), .int .i64 (p.h0 + am), .int .i64 (p.h1 - am), .slice A1 n1 c1], .int .i64 0]) (by simp [results, Try.results42, go_sem, r0, r1, r2, r3, r4, r5, r6, r7, r8, r9, r10, r11, hne1, hne2]) rfl ⟨A1, n1, c1, rfl, ?_, ?_⟩
            · refine pown_down (base := w.heap.size + 2) ?_ (by omega)
              repeat (first | refine ownsRow_setCell_below ?_ (by show w.heap.size + 1 < _; omega) _)
              refine own_set (own_set Ho2.out HQ2.out (by decide) _ _) (Joins.block_setCell HQ2.out _) (by decide) _ _
            · repeat refine Below.setCell ?_ (by first | (show w.heap.size ≤ w.heap.size + 1; omega) | (show w.heap.size ≤ w1.heap.size; omega)) _
              exact Hw2.out
        · have hp' : posB am = false := by simpa using hp
          have Hr : Hid (p.pay 1 am = (2, pu0)) := by show _ = _; unfold Pu.pay; rw [if_pos Hn.out, if_neg (by omega), if_neg hp]
          clear hp
          go_wp2_with (go_at_call 57; refine (pos_any _ _).mono ?_; rintro e w' ⟨rfl, rfl⟩)
          rw [Hr.out]
          refine bodyPost_ret (v := .tuple #[.agg #[.int .u8 0, .int .u8 0, .int .u8 0, .int .u8 0, .int .u8 0, .int .u8 0, .int .u8 0, .int .u8 0, .int .i64 0, .int .i64 0, .int .i64 0, .slice none 0 0], .int .i64 2]) (by simp [results, Try.results42, go_sem, r0, r1, r2, r3, r4, r5, r6, r7, r8, r9, r10, r11]) rfl (givesChR_no rfl ?_)
          repeat refine Below.setCell ?_ (by show w.heap.size ≤ w.heap.size + 1; omega) _
          exact Hw2.out
      · have b0 : (fr != 0) = true := by simpa using h0
        have b1 : (fr != 1) = true := by simpa using h1
        have Hr : Hid (p.pay fr am = (28, pu0)) := by show _ = _; unfold Pu.pay; rw [if_pos Hn.out, if_pos (by omega)]
        clear h0 h1
        go_wp2
        rw [Hr.out]
        refine bodyPost_ret (v := .tuple #[.agg #[.int .u8 0, .int .u8 0, .int .u8 0, .int .u8 0, .int .u8 0, .int .u8 0, .int .u8 0, .int .u8 0, .int .i64 0, .int .i64 0, .int .i64 0, .slice none 0 0], .int .i64 28]) (by simp [results, Try.results42, go_sem, r0, r1, r2, r3, r4, r5, r6, r7, r8, r9, r10, r11]) rfl (givesChR_no rfl ?_)
        repeat refine Below.setCell ?_ (by show w.heap.size ≤ w.heap.size + 1; omega) _
        exact Hw2.out
  · have hq : (en, q) = (p.next, pu0) := by rw [← Hnp.out, nextP_no hn]
    injection hq with hq1 hq2
    subst hq1
    subst hq2
    have b1 : (p.next != 0) = true := by simpa using hn
    have Hr := Lib.hid (pay_next (fr := fr) (am := am) hn)
    clear hn Hnp
    go_wp2
    rw [Hr.out]
    refine bodyPost_ret (v := .tuple #[.agg #[.int .u8 0, .int .u8 0, .int .u8 0, .int .u8 0, .int .u8 0, .int .u8 0, .int .u8 0, .int .u8 0, .int .i64 0, .int .i64 0, .int .i64 0, .slice none 0 0], .int .i64 p.next]) (by simp [results, Try.results42, go_sem, r0, r1, r2, r3, r4, r5, r6, r7, r8, r9, r10, r11]) rfl (givesChR_no rfl ?_)
    repeat refine Below.setCell ?_ (by show w.heap.size ≤ w.heap.size + 1; omega) _
    exact Hw2.out
end Go.Proofs.Ytjiecnoplnaahaa
