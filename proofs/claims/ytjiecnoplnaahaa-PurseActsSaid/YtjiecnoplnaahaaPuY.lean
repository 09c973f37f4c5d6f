/- The walk of the reference's Hold of a purse. Conditions: bounds. -/
import Derived.Test.YtjiecnoplnaahaaPuX
import Derived.RegionTactic
import Derived.Test.YtjiecnoplnaahaaPuQ0
namespace Go.Proofs.Ytjiecnoplnaahaa
open Go.RowKit Go.Lib


theorem hold_next {p : Pu} {d : Hd} (h : p.next ≠ 0) : p.hold d = (p.next, pu0) := by unfold Pu.hold; rw [if_neg h]
set_option maxRecDepth 100000 in
set_option maxHeartbeats 8000000 in
theorem holdr_any (p : Pu) (A : Option Addr) (n c : Nat) (h : Hd) (w : World) (hp : PuV.At p A n c w) :
    Calls Try.prog 43 #[.agg #[.int .u8 (p.nm.x0 : Int), .int .u8 (p.nm.x1 : Int), .int .u8 (p.nm.x2 : Int), .int .u8 (p.nm.x3 : Int), .int .u8 (p.nm.x4 : Int), .int .u8 (p.nm.x5 : Int), .int .u8 (p.nm.x6 : Int), .int .u8 (p.nm.x7 : Int), .int .i64 p.no, .int .i64 p.h0, .int .i64 p.h1, .slice A n c], .agg #[.int .u8 (h.nm.x0 : Int), .int .u8 (h.nm.x1 : Int), .int .u8 (h.nm.x2 : Int), .int .u8 (h.nm.x3 : Int), .int .u8 (h.nm.x4 : Int), .int .u8 (h.nm.x5 : Int), .int .u8 (h.nm.x6 : Int), .int .u8 (h.nm.x7 : Int), .int .i64 h.am, .int .i64 h.fr, .int .i64 h.un]] w (GivesChR (p.hold h) w) := by
  obtain ⟨i0, hi, hz0, hz1, hz2⟩ := info_parts info_HeldR
  have HI := Lib.hid (And.intro hi (And.intro hz0 (And.intro hz1 hz2))); clear hi hz0 hz1 hz2
  have HT : Hid ((((w.alloc (.cells #[.int .u8 (p.nm.x0 : Int), .int .u8 (p.nm.x1 : Int), .int .u8 (p.nm.x2 : Int), .int .u8 (p.nm.x3 : Int), .int .u8 (p.nm.x4 : Int), .int .u8 (p.nm.x5 : Int), .int .u8 (p.nm.x6 : Int), .int .u8 (p.nm.x7 : Int), .int .i64 p.no, .int .i64 p.h0, .int .i64 p.h1, .slice A n c] 26)).alloc (.cells #[.int .u8 (h.nm.x0 : Int), .int .u8 (h.nm.x1 : Int), .int .u8 (h.nm.x2 : Int), .int .u8 (h.nm.x3 : Int), .int .u8 (h.nm.x4 : Int), .int .u8 (h.nm.x5 : Int), .int .u8 (h.nm.x6 : Int), .int .u8 (h.nm.x7 : Int), .int .i64 h.am, .int .i64 h.fr, .int .i64 h.un] 60)).alloc (.cells #[.int .u8 0, .int .u8 0, .int .u8 0, .int .u8 0, .int .u8 0, .int .u8 0, .int .u8 0, .int .u8 0, .int .i64 0, .int .i64 0, .int .i64 0, .slice none 0 0] 26)).heap[w.heap.size]? = some (.cells #[.int .u8 (p.nm.x0 : Int), .int .u8 (p.nm.x1 : Int), .int .u8 (p.nm.x2 : Int), .int .u8 (p.nm.x3 : Int), .int .u8 (p.nm.x4 : Int), .int .u8 (p.nm.x5 : Int), .int .u8 (p.nm.x6 : Int), .int .u8 (p.nm.x7 : Int), .int .i64 p.no, .int .i64 p.h0, .int .i64 p.h1, .slice A n c] 26 (0, 0))) := block_alloc (block_alloc (heap_alloc_new _ _) _) _
  have HB : Hid ((((w.alloc (.cells #[.int .u8 (p.nm.x0 : Int), .int .u8 (p.nm.x1 : Int), .int .u8 (p.nm.x2 : Int), .int .u8 (p.nm.x3 : Int), .int .u8 (p.nm.x4 : Int), .int .u8 (p.nm.x5 : Int), .int .u8 (p.nm.x6 : Int), .int .u8 (p.nm.x7 : Int), .int .i64 p.no, .int .i64 p.h0, .int .i64 p.h1, .slice A n c] 26)).alloc (.cells #[.int .u8 (h.nm.x0 : Int), .int .u8 (h.nm.x1 : Int), .int .u8 (h.nm.x2 : Int), .int .u8 (h.nm.x3 : Int), .int .u8 (h.nm.x4 : Int), .int .u8 (h.nm.x5 : Int), .int .u8 (h.nm.x6 : Int), .int .u8 (h.nm.x7 : Int), .int .i64 h.am, .int .i64 h.fr, .int .i64 h.un] 60)).alloc (.cells #[.int .u8 0, .int .u8 0, .int .u8 0, .int .u8 0, .int .u8 0, .int .u8 0, .int .u8 0, .int .u8 0, .int .i64 0, .int .i64 0, .int .i64 0, .slice none 0 0] 26)).heap[w.heap.size + 1]? = some (.cells #[.int .u8 (h.nm.x0 : Int), .int .u8 (h.nm.x1 : Int), .int .u8 (h.nm.x2 : Int), .int .u8 (h.nm.x3 : Int), .int .u8 (h.nm.x4 : Int), .int .u8 (h.nm.x5 : Int), .int .u8 (h.nm.x6 : Int), .int .u8 (h.nm.x7 : Int), .int .i64 h.am, .int .i64 h.fr, .int .i64 h.un] 60 (0, 0))) := block_alloc (alloc_at (by simp)) _
  have HR : Hid ((((w.alloc (.cells #[.int .u8 (p.nm.x0 : Int), .int .u8 (p.nm.x1 : Int), .int .u8 (p.nm.x2 : Int), .int .u8 (p.nm.x3 : Int), .int .u8 (p.nm.x4 : Int), .int .u8 (p.nm.x5 : Int), .int .u8 (p.nm.x6 : Int), .int .u8 (p.nm.x7 : Int), .int .i64 p.no, .int .i64 p.h0, .int .i64 p.h1, .slice A n c] 26)).alloc (.cells #[.int .u8 (h.nm.x0 : Int), .int .u8 (h.nm.x1 : Int), .int .u8 (h.nm.x2 : Int), .int .u8 (h.nm.x3 : Int), .int .u8 (h.nm.x4 : Int), .int .u8 (h.nm.x5 : Int), .int .u8 (h.nm.x6 : Int), .int .u8 (h.nm.x7 : Int), .int .i64 h.am, .int .i64 h.fr, .int .i64 h.un] 60)).alloc (.cells #[.int .u8 0, .int .u8 0, .int .u8 0, .int .u8 0, .int .u8 0, .int .u8 0, .int .u8 0, .int .u8 0, .int .i64 0, .int .i64 0, .int .i64 0, .slice none 0 0] 26)).heap[w.heap.size + 2]? = some (.cells #[.int .u8 0, .int .u8 0, .int .u8 0, .int .u8 0, .int .u8 0, .int .u8 0, .int .u8 0, .int .u8 0, .int .i64 0, .int .i64 0, .int .i64 0, .slice none 0 0] 26 (0, 0))) := alloc_at (by simp)
  have Hw : Hid (Below w.heap.size w (((w.alloc (.cells #[.int .u8 (p.nm.x0 : Int), .int .u8 (p.nm.x1 : Int), .int .u8 (p.nm.x2 : Int), .int .u8 (p.nm.x3 : Int), .int .u8 (p.nm.x4 : Int), .int .u8 (p.nm.x5 : Int), .int .u8 (p.nm.x6 : Int), .int .u8 (p.nm.x7 : Int), .int .i64 p.no, .int .i64 p.h0, .int .i64 p.h1, .slice A n c] 26)).alloc (.cells #[.int .u8 (h.nm.x0 : Int), .int .u8 (h.nm.x1 : Int), .int .u8 (h.nm.x2 : Int), .int .u8 (h.nm.x3 : Int), .int .u8 (h.nm.x4 : Int), .int .u8 (h.nm.x5 : Int), .int .u8 (h.nm.x6 : Int), .int .u8 (h.nm.x7 : Int), .int .i64 h.am, .int .i64 h.fr, .int .i64 h.un] 60)).alloc (.cells #[.int .u8 0, .int .u8 0, .int .u8 0, .int .u8 0, .int .u8 0, .int .u8 0, .int .u8 0, .int .u8 0, .int .i64 0, .int .i64 0, .int .i64 0, .slice none 0 0] 26))) := (below_two w _ _).alloc (by simp; omega) _
  have Hz : Hid ((((w.alloc (.cells #[.int .u8 (p.nm.x0 : Int), .int .u8 (p.nm.x1 : Int), .int .u8 (p.nm.x2 : Int), .int .u8 (p.nm.x3 : Int), .int .u8 (p.nm.x4 : Int), .int .u8 (p.nm.x5 : Int), .int .u8 (p.nm.x6 : Int), .int .u8 (p.nm.x7 : Int), .int .i64 p.no, .int .i64 p.h0, .int .i64 p.h1, .slice A n c] 26)).alloc (.cells #[.int .u8 (h.nm.x0 : Int), .int .u8 (h.nm.x1 : Int), .int .u8 (h.nm.x2 : Int), .int .u8 (h.nm.x3 : Int), .int .u8 (h.nm.x4 : Int), .int .u8 (h.nm.x5 : Int), .int .u8 (h.nm.x6 : Int), .int .u8 (h.nm.x7 : Int), .int .i64 h.am, .int .i64 h.fr, .int .i64 h.un] 60)).alloc (.cells #[.int .u8 0, .int .u8 0, .int .u8 0, .int .u8 0, .int .u8 0, .int .u8 0, .int .u8 0, .int .u8 0, .int .i64 0, .int .i64 0, .int .i64 0, .slice none 0 0] 26)).heap.size = w.heap.size + 3) := by show _ = _; simp
  have H := Lib.hid (hp.up Hw.out)
  have Hl := Lib.hid hp.rd.hlen
  clear hp
  go_enter Try.func43, Try.ntmps43
  go_wp2_with fail
  refine (nextr_any p A n c _ H.out).mono ?_
  generalize (((w.alloc (.cells #[.int .u8 (p.nm.x0 : Int), .int .u8 (p.nm.x1 : Int), .int .u8 (p.nm.x2 : Int), .int .u8 (p.nm.x3 : Int), .int .u8 (p.nm.x4 : Int), .int .u8 (p.nm.x5 : Int), .int .u8 (p.nm.x6 : Int), .int .u8 (p.nm.x7 : Int), .int .i64 p.no, .int .i64 p.h0, .int .i64 p.h1, .slice A n c] 26)).alloc (.cells #[.int .u8 (h.nm.x0 : Int), .int .u8 (h.nm.x1 : Int), .int .u8 (h.nm.x2 : Int), .int .u8 (h.nm.x3 : Int), .int .u8 (h.nm.x4 : Int), .int .u8 (h.nm.x5 : Int), .int .u8 (h.nm.x6 : Int), .int .u8 (h.nm.x7 : Int), .int .i64 h.am, .int .i64 h.fr, .int .i64 h.un] 60)).alloc (.cells #[.int .u8 0, .int .u8 0, .int .u8 0, .int .u8 0, .int .u8 0, .int .u8 0, .int .u8 0, .int .u8 0, .int .i64 0, .int .i64 0, .int .i64 0, .slice none 0 0] 26)) = w0 at *
  generalize hnp : p.nextP = np at *
  have Hnp := Lib.hid hnp
  clear hnp
  obtain ⟨en, q⟩ := np
  rintro e w1 ⟨A1, n1, c1, rfl, ho1, hb1⟩
  simp only at ho1
  have H2 := Lib.hid ((H.out.up hb1).up (below_one w1 (.cells #[.int .u8 (q.nm.x0 : Int), .int .u8 (q.nm.x1 : Int), .int .u8 (q.nm.x2 : Int), .int .u8 (q.nm.x3 : Int), .int .u8 (q.nm.x4 : Int), .int .u8 (q.nm.x5 : Int), .int .u8 (q.nm.x6 : Int), .int .u8 (q.nm.x7 : Int), .int .i64 q.no, .int .i64 q.h0, .int .i64 q.h1, .slice A1 n1 c1] 26)))
  have HT2 := Lib.hid (block_alloc (block_below HT.out hb1 (by rw [Hz.out]; omega)) (.cells #[.int .u8 (q.nm.x0 : Int), .int .u8 (q.nm.x1 : Int), .int .u8 (q.nm.x2 : Int), .int .u8 (q.nm.x3 : Int), .int .u8 (q.nm.x4 : Int), .int .u8 (q.nm.x5 : Int), .int .u8 (q.nm.x6 : Int), .int .u8 (q.nm.x7 : Int), .int .i64 q.no, .int .i64 q.h0, .int .i64 q.h1, .slice A1 n1 c1] 26))
  have HB2 := Lib.hid (block_alloc (block_below HB.out hb1 (by rw [Hz.out]; omega)) (.cells #[.int .u8 (q.nm.x0 : Int), .int .u8 (q.nm.x1 : Int), .int .u8 (q.nm.x2 : Int), .int .u8 (q.nm.x3 : Int), .int .u8 (q.nm.x4 : Int), .int .u8 (q.nm.x5 : Int), .int .u8 (q.nm.x6 : Int), .int .u8 (q.nm.x7 : Int), .int .i64 q.no, .int .i64 q.h0, .int .i64 q.h1, .slice A1 n1 c1] 26))
  have HR2 := Lib.hid (block_alloc (block_below HR.out hb1 (by rw [Hz.out]; omega)) (.cells #[.int .u8 (q.nm.x0 : Int), .int .u8 (q.nm.x1 : Int), .int .u8 (q.nm.x2 : Int), .int .u8 (q.nm.x3 : Int), .int .u8 (q.nm.x4 : Int), .int .u8 (q.nm.x5 : Int), .int .u8 (q.nm.x6 : Int), .int .u8 (q.nm.x7 : Int), .int .i64 q.no, .int .i64 q.h0, .int .i64 q.h1, .slice A1 n1 c1] 26))
  have HQ2 := Lib.hid (heap_alloc_new w1 (.cells #[.int .u8 (q.nm.x0 : Int), .int .u8 (q.nm.x1 : Int), .int .u8 (q.nm.x2 : Int), .int .u8 (q.nm.x3 : Int), .int .u8 (q.nm.x4 : Int), .int .u8 (q.nm.x5 : Int), .int .u8 (q.nm.x6 : Int), .int .u8 (q.nm.x7 : Int), .int .i64 q.no, .int .i64 q.h0, .int .i64 q.h1, .slice A1 n1 c1] 26))
  have hs1 : w.heap.size + 3 ≤ w1.heap.size := by have := hb1.size; rw [Hz.out] at this; exact this
  have Hw2 := Lib.hid ((Hw.out.trans (hb1.mono Hw.out.size)).alloc (by omega) (.cells #[.int .u8 (q.nm.x0 : Int), .int .u8 (q.nm.x1 : Int), .int .u8 (q.nm.x2 : Int), .int .u8 (q.nm.x3 : Int), .int .u8 (q.nm.x4 : Int), .int .u8 (q.nm.x5 : Int), .int .u8 (q.nm.x6 : Int), .int .u8 (q.nm.x7 : Int), .int .i64 q.no, .int .i64 q.h0, .int .i64 q.h1, .slice A1 n1 c1] 26))
  have Ho2 := Lib.hid ((pown_down ho1 (show w.heap.size + 3 ≤ w0.heap.size by rw [Hz.out]; exact Nat.le_refl _)).alloc (.cells #[.int .u8 (q.nm.x0 : Int), .int .u8 (q.nm.x1 : Int), .int .u8 (q.nm.x2 : Int), .int .u8 (q.nm.x3 : Int), .int .u8 (q.nm.x4 : Int), .int .u8 (q.nm.x5 : Int), .int .u8 (q.nm.x6 : Int), .int .u8 (q.nm.x7 : Int), .int .i64 q.no, .int .i64 q.h0, .int .i64 q.h1, .slice A1 n1 c1] 26))
  clear hb1 ho1
  go_upto_region 2 with fail
  generalize (w1.alloc (.cells #[.int .u8 (q.nm.x0 : Int), .int .u8 (q.nm.x1 : Int), .int .u8 (q.nm.x2 : Int), .int .u8 (q.nm.x3 : Int), .int .u8 (q.nm.x4 : Int), .int .u8 (q.nm.x5 : Int), .int .u8 (q.nm.x6 : Int), .int .u8 (q.nm.x7 : Int), .int .i64 q.no, .int .i64 q.h0, .int .i64 q.h1, .slice A1 n1 c1] 26)) = w2 at *
  obtain ⟨z0, z1, z2, z3, z4, z5, z6, z7, z8, z9, z10, z11⟩ := PBox.all HT2.out
  obtain ⟨y0, y1, y2, y3, y4, y5, y6, y7, y8, y9, y10⟩ := HBox.all (h := h) HB2.out
  have r := block_cell HR2.out
  have r0 := r 0; have r1 := r 1; have r2 := r 2; have r3 := r 3; have r4 := r 4; have r5 := r 5; have r6 := r 6; have r7 := r 7; have r8 := r 8; have r9 := r 9; have r10 := r 10; have r11 := r 11
  have rf := block_free HR2.out
  simp at r0 r1 r2 r3 r4 r5 r6 r7 r8 r9 r10 r11
  clear r
  by_cases hn : p.next = 0
  · have hq : (en, q) = (0, ⟨p.nm, p.no + 1, p.h0, p.h1, p.held⟩) := by rw [← Hnp.out, nextP_yes hn]; rfl
    injection hq with hq1 hq2
    subst hq1
    subst hq2
    simp only at *
    have hck := check_iff.1 (next_ok hn).1
    obtain ⟨_, ⟨u0, u1⟩, ⟨u2, u3⟩, hl16, _⟩ := hck
    have hn16 : n ≤ 16 := by rw [← Hl.out]; exact hl16
    have Hn := Lib.hid hn
    have hne1 : w.heap.size + 2 ≠ w1.heap.size := by omega
    have hne2 : w1.heap.size ≠ w.heap.size + 2 := by omega
    clear hn Hnp hl16
    by_cases hfr : h.fr = 0 ∨ h.fr = 1
    · obtain ⟨fn, fa, ff, fu⟩ := h
      simp only at *
      rcases hfr with rfl | rfl
      ·
        have Hfr : Hid (¬ ((0 : Int) < 0 ∨ 1 < (0 : Int))) := by show ¬ _; omega
        by_cases q3 : posB fa = false
        · have Hr : Hid (p.hold ⟨fn, fa, 0, fu⟩ = (2, pu0)) := by show _ = _; unfold Pu.hold; rw [if_pos Hn.out, if_neg Hfr.out, if_neg (by simp [q3])]
          go_wp2_with (first | (go_at_call 57; refine (pos_any _ _).mono ?_; rintro e w' ⟨rfl, rfl⟩) | (go_at_call 55; refine (height_any _ _).mono ?_; rintro e w' ⟨rfl, rfl⟩))
          rw [Hr.out]
          refine bodyPost_ret (v := .tuple #[.agg #[.int .u8 0, .int .u8 0, .int .u8 0, .int .u8 0, .int .u8 0, .int .u8 0, .int .u8 0, .int .u8 0, .int .i64 0, .int .i64 0, .int .i64 0, .slice none 0 0], .int .i64 2]) (by simp [results, Try.results43, go_sem, r0, r1, r2, r3, r4, r5, r6, r7, r8, r9, r10, r11]) rfl (givesChR_no rfl ?_)
          repeat refine Below.setCell ?_ (by show w.heap.size ≤ w.heap.size + 2; omega) _
          exact Hw2.out
        replace q3 : posB fa = true := by simpa using q3
        by_cases q4 : far fu = false
        · have Hr : Hid (p.hold ⟨fn, fa, 0, fu⟩ = (2, pu0)) := by show _ = _; unfold Pu.hold; rw [if_pos Hn.out, if_neg Hfr.out, if_neg (by simp [q4])]
          go_wp2_with (first | (go_at_call 57; refine (pos_any _ _).mono ?_; rintro e w' ⟨rfl, rfl⟩) | (go_at_call 55; refine (height_any _ _).mono ?_; rintro e w' ⟨rfl, rfl⟩))
          rw [Hr.out]
          refine bodyPost_ret (v := .tuple #[.agg #[.int .u8 0, .int .u8 0, .int .u8 0, .int .u8 0, .int .u8 0, .int .u8 0, .int .u8 0, .int .u8 0, .int .i64 0, .int .i64 0, .int .i64 0, .slice none 0 0], .int .i64 2]) (by simp [results, Try.results43, go_sem, r0, r1, r2, r3, r4, r5, r6, r7, r8, r9, r10, r11]) rfl (givesChR_no rfl ?_)
          repeat refine Below.setCell ?_ (by show w.heap.size ≤ w.heap.size + 2; omega) _
          exact Hw2.out
        replace q4 : far fu = true := by simpa using q4
        have Hpf : Hid ((posB fa && far fu) = true) := by show _ = _; simp [q3, q4]
        obtain ⟨m0, m1⟩ := posB_iff.1 q3
        by_cases q5 : 0 ≤ placeL p.held fn
        · have Hr : Hid (p.hold ⟨fn, fa, 0, fu⟩ = (7, pu0)) := by show _ = _; unfold Pu.hold; rw [if_pos Hn.out, if_neg Hfr.out, if_pos Hpf.out, if_pos q5]
          have q5' : decide (0 ≤ placeL p.held fn) = true := decide_eq_true q5
          clear q5
          go_wp2_with (first | (go_at_call 57; refine (pos_any _ _).mono ?_; rintro e w' ⟨rfl, rfl⟩) | (go_at_call 55; refine (height_any _ _).mono ?_; rintro e w' ⟨rfl, rfl⟩))
          refine (placer_any p A n c fn w2 H2.out).mono ?_
          rintro e w3 ⟨rfl, hb3⟩
          have HT3 := Lib.hid (block_below HT2.out hb3 (block_lt HT2.out))
          have HB3 := Lib.hid (block_below HB2.out hb3 (block_lt HB2.out))
          have HR3 := Lib.hid (block_below HR2.out hb3 (block_lt HR2.out))
          have HQ3 := Lib.hid (block_below HQ2.out hb3 (block_lt HQ2.out))
          have Ho3 := Lib.hid (own_below Ho2.out hb3)
          have Hw3 := Lib.hid (Hw2.out.trans (hb3.mono Hw2.out.size))
          clear hb3 z0 z1 z2 z3 z4 z5 z6 z7 z8 z9 z10 z11 y0 y1 y2 y3 y4 y5 y6 y7 y8 y9 y10 r0 r1 r2 r3 r4 r5 r6 r7 r8 r9 r10 r11 rf
          obtain ⟨z0, z1, z2, z3, z4, z5, z6, z7, z8, z9, z10, z11⟩ := PBox.all HT3.out
          obtain ⟨y0, y1, y2, y3, y4, y5, y6, y7, y8, y9, y10⟩ := HBox.all (h := (⟨fn, fa, 0, fu⟩ : Hd)) HB3.out
          have r := block_cell HR3.out
          have r0 := r 0; have r1 := r 1; have r2 := r 2; have r3 := r 3; have r4 := r 4; have r5 := r 5; have r6 := r 6; have r7 := r 7; have r8 := r 8; have r9 := r 9; have r10 := r 10; have r11 := r 11
          have rf := block_free HR3.out
          simp at r0 r1 r2 r3 r4 r5 r6 r7 r8 r9 r10 r11
          clear r
          go_wp2
          rw [Hr.out]
          refine bodyPost_ret (v := .tuple #[.agg #[.int .u8 0, .int .u8 0, .int .u8 0, .int .u8 0, .int .u8 0, .int .u8 0, .int .u8 0, .int .u8 0, .int .i64 0, .int .i64 0, .int .i64 0, .slice none 0 0], .int .i64 7]) (by simp [results, Try.results43, go_sem, r0, r1, r2, r3, r4, r5, r6, r7, r8, r9, r10, r11]) rfl (givesChR_no rfl ?_)
          repeat refine Below.setCell ?_ (by show w.heap.size ≤ w.heap.size + 2; omega) _
          exact Hw3.out
        have q5' : decide (0 ≤ placeL p.held fn) = false := decide_eq_false q5
        by_cases q6 : n = 16
        · have Hr : Hid (p.hold ⟨fn, fa, 0, fu⟩ = (8, pu0)) := by show _ = _; unfold Pu.hold; rw [if_pos Hn.out, if_neg Hfr.out, if_pos Hpf.out, if_neg q5, if_pos (by rw [Hl.out]; omega)]
          have q6' : ((n : Int) == 16) = true := by rw [beq_iff_eq]; omega
          clear q5 q6
          go_wp2_with (first | (go_at_call 57; refine (pos_any _ _).mono ?_; rintro e w' ⟨rfl, rfl⟩) | (go_at_call 55; refine (height_any _ _).mono ?_; rintro e w' ⟨rfl, rfl⟩))
          refine (placer_any p A n c fn w2 H2.out).mono ?_
          rintro e w3 ⟨rfl, hb3⟩
          have HT3 := Lib.hid (block_below HT2.out hb3 (block_lt HT2.out))
          have HB3 := Lib.hid (block_below HB2.out hb3 (block_lt HB2.out))
          have HR3 := Lib.hid (block_below HR2.out hb3 (block_lt HR2.out))
          have HQ3 := Lib.hid (block_below HQ2.out hb3 (block_lt HQ2.out))
          have Ho3 := Lib.hid (own_below Ho2.out hb3)
          have Hw3 := Lib.hid (Hw2.out.trans (hb3.mono Hw2.out.size))
          clear hb3 z0 z1 z2 z3 z4 z5 z6 z7 z8 z9 z10 z11 y0 y1 y2 y3 y4 y5 y6 y7 y8 y9 y10 r0 r1 r2 r3 r4 r5 r6 r7 r8 r9 r10 r11 rf
          obtain ⟨z0, z1, z2, z3, z4, z5, z6, z7, z8, z9, z10, z11⟩ := PBox.all HT3.out
          obtain ⟨y0, y1, y2, y3, y4, y5, y6, y7, y8, y9, y10⟩ := HBox.all (h := (⟨fn, fa, 0, fu⟩ : Hd)) HB3.out
          have r := block_cell HR3.out
          have r0 := r 0; have r1 := r 1; have r2 := r 2; have r3 := r 3; have r4 := r 4; have r5 := r 5; have r6 := r 6; have r7 := r 7; have r8 := r 8; have r9 := r 9; have r10 := r 10; have r11 := r 11
          have rf := block_free HR3.out
          simp at r0 r1 r2 r3 r4 r5 r6 r7 r8 r9 r10 r11
          clear r
          go_wp2
          rw [Hr.out]
          refine bodyPost_ret (v := .tuple #[.agg #[.int .u8 0, .int .u8 0, .int .u8 0, .int .u8 0, .int .u8 0, .int .u8 0, .int .u8 0, .int .u8 0, .int .i64 0, .int .i64 0, .int .i64 0, .slice none 0 0], .int .i64 8]) (by simp [results, Try.results43, go_sem, r0, r1, r2, r3, r4, r5, r6, r7, r8, r9, r10, r11]) rfl (givesChR_no rfl ?_)
          repeat refine Below.setCell ?_ (by show w.heap.size ≤ w.heap.size + 2; omega) _
          exact Hw3.out
        have q6' : ((n : Int) == 16) = false := by rw [beq_eq_false_iff_ne]; omega
        have hn15 : n ≤ 15 := by omega
        have Hq5 := Lib.hid q5
        have Hq6 : Hid (¬ 16 ≤ p.held.length) := by show ¬ _; rw [Hl.out]; omega
        clear q5 q6
        by_cases h3 : p.h0 < fa
        · have Hr : Hid (p.hold ⟨fn, fa, 0, fu⟩ = (21, pu0)) := by show _ = _; unfold Pu.hold; rw [if_pos Hn.out, if_neg Hfr.out, if_pos Hpf.out, if_neg Hq5.out, if_neg Hq6.out, if_pos (show p.have_ 0 < fa from h3)]
          have h3' : decide (p.h0 < fa) = true := decide_eq_true h3
          clear h3
          go_wp2_with (first | (go_at_call 57; refine (pos_any _ _).mono ?_; rintro e w' ⟨rfl, rfl⟩) | (go_at_call 55; refine (height_any _ _).mono ?_; rintro e w' ⟨rfl, rfl⟩))
          refine (placer_any p A n c fn w2 H2.out).mono ?_
          rintro e w3 ⟨rfl, hb3⟩
          have HT3 := Lib.hid (block_below HT2.out hb3 (block_lt HT2.out))
          have HB3 := Lib.hid (block_below HB2.out hb3 (block_lt HB2.out))
          have HR3 := Lib.hid (block_below HR2.out hb3 (block_lt HR2.out))
          have HQ3 := Lib.hid (block_below HQ2.out hb3 (block_lt HQ2.out))
          have Ho3 := Lib.hid (own_below Ho2.out hb3)
          have Hw3 := Lib.hid (Hw2.out.trans (hb3.mono Hw2.out.size))
          clear hb3 z0 z1 z2 z3 z4 z5 z6 z7 z8 z9 z10 z11 y0 y1 y2 y3 y4 y5 y6 y7 y8 y9 y10 r0 r1 r2 r3 r4 r5 r6 r7 r8 r9 r10 r11 rf
          obtain ⟨z0, z1, z2, z3, z4, z5, z6, z7, z8, z9, z10, z11⟩ := PBox.all HT3.out
          obtain ⟨y0, y1, y2, y3, y4, y5, y6, y7, y8, y9, y10⟩ := HBox.all (h := (⟨fn, fa, 0, fu⟩ : Hd)) HB3.out
          have r := block_cell HR3.out
          have r0 := r 0; have r1 := r 1; have r2 := r 2; have r3 := r 3; have r4 := r 4; have r5 := r 5; have r6 := r 6; have r7 := r 7; have r8 := r 8; have r9 := r 9; have r10 := r 10; have r11 := r 11
          have rf := block_free HR3.out
          simp at r0 r1 r2 r3 r4 r5 r6 r7 r8 r9 r10 r11
          clear r
          go_wp2
          go_region
          go_wp2
          rw [Hr.out]
          refine bodyPost_ret (v := .tuple #[.agg #[.int .u8 0, .int .u8 0, .int .u8 0, .int .u8 0, .int .u8 0, .int .u8 0, .int .u8 0, .int .u8 0, .int .i64 0, .int .i64 0, .int .i64 0, .slice none 0 0], .int .i64 21]) (by simp [results, Try.results43, go_sem, r0, r1, r2, r3, r4, r5, r6, r7, r8, r9, r10, r11]) rfl (givesChR_no rfl ?_)
          refine Below.drew ?_
          repeat refine Below.setCell ?_ (by show w.heap.size ≤ w.heap.size + 2; omega) _
          exact Hw3.out
        have h3' : decide (p.h0 < fa) = false := decide_eq_false h3
        have h3'' : fa ≤ p.h0 := by omega
        have Hr : Hid (p.hold ⟨fn, fa, 0, fu⟩ = (0, ⟨p.nm, p.no + 1, (p.h0 - fa), p.h1, p.held ++ [⟨fn, fa, 0, fu⟩]⟩)) := by show _ = _; unfold Pu.hold; rw [if_pos Hn.out, if_neg Hfr.out, if_pos Hpf.out, if_neg Hq5.out, if_neg Hq6.out, if_neg (show ¬ p.have_ 0 < fa from h3)]; rfl
        clear h3
        go_wp2_with (first | (go_at_call 57; refine (pos_any _ _).mono ?_; rintro e w' ⟨rfl, rfl⟩) | (go_at_call 55; refine (height_any _ _).mono ?_; rintro e w' ⟨rfl, rfl⟩))
        refine (placer_any p A n c fn w2 H2.out).mono ?_
        rintro e w3 ⟨rfl, hb3⟩
        have HT3 := Lib.hid (block_below HT2.out hb3 (block_lt HT2.out))
        have HB3 := Lib.hid (block_below HB2.out hb3 (block_lt HB2.out))
        have HR3 := Lib.hid (block_below HR2.out hb3 (block_lt HR2.out))
        have HQ3 := Lib.hid (block_below HQ2.out hb3 (block_lt HQ2.out))
        have Ho3 := Lib.hid (own_below Ho2.out hb3)
        have Hw3 := Lib.hid (Hw2.out.trans (hb3.mono Hw2.out.size))
        clear hb3 z0 z1 z2 z3 z4 z5 z6 z7 z8 z9 z10 z11 y0 y1 y2 y3 y4 y5 y6 y7 y8 y9 y10 r0 r1 r2 r3 r4 r5 r6 r7 r8 r9 r10 r11 rf
        obtain ⟨z0, z1, z2, z3, z4, z5, z6, z7, z8, z9, z10, z11⟩ := PBox.all HT3.out
        obtain ⟨y0, y1, y2, y3, y4, y5, y6, y7, y8, y9, y10⟩ := HBox.all (h := (⟨fn, fa, 0, fu⟩ : Hd)) HB3.out
        have r := block_cell HR3.out
        have r0 := r 0; have r1 := r 1; have r2 := r 2; have r3 := r 3; have r4 := r 4; have r5 := r 5; have r6 := r 6; have r7 := r 7; have r8 := r 8; have r9 := r 9; have r10 := r 10; have r11 := r 11
        have rf := block_free HR3.out
        simp at r0 r1 r2 r3 r4 r5 r6 r7 r8 r9 r10 r11
        clear r
        obtain ⟨x0, x1, x2, x3, x4, x5, x6, x7, x8, x9, x10, x11⟩ := PBox.all (p := (⟨p.nm, p.no + 1, p.h0, p.h1, p.held⟩ : Pu)) HQ3.out
        simp only at x0 x1 x2 x3 x4 x5 x6 x7 x8 x9 x10 x11
        have xf := block_free HQ3.out
        go_wp2
        go_region
        go_wp2
        go_region
        have hl5 : w.heap.size + 2 < w3.heap.size := block_lt HR3.out
        have HQ4 : Hid ((w3.setCell ⟨w1.heap.size, 9, none⟩ (.int .i64 (p.h0 - fa))).drew.drew.heap[w1.heap.size]? = some (.cells #[.int .u8 (p.nm.x0 : Int), .int .u8 (p.nm.x1 : Int), .int .u8 (p.nm.x2 : Int), .int .u8 (p.nm.x3 : Int), .int .u8 (p.nm.x4 : Int), .int .u8 (p.nm.x5 : Int), .int .u8 (p.nm.x6 : Int), .int .u8 (p.nm.x7 : Int), .int .i64 (p.no + 1), .int .i64 (p.h0 - fa), .int .i64 p.h1, .slice A1 n1 c1] 26 (0, 0))) := by
          have := Joins.block_setCell (i := 9) HQ3.out (.int .i64 (p.h0 - fa))
          simp at this
          exact this
        have HB4 : Hid ((w3.setCell ⟨w1.heap.size, 9, none⟩ (.int .i64 (p.h0 - fa))).drew.drew.heap[w.heap.size + 1]? = some (.cells #[.int .u8 (fn.x0 : Int), .int .u8 (fn.x1 : Int), .int .u8 (fn.x2 : Int), .int .u8 (fn.x3 : Int), .int .u8 (fn.x4 : Int), .int .u8 (fn.x5 : Int), .int .u8 (fn.x6 : Int), .int .u8 (fn.x7 : Int), .int .i64 fa, .int .i64 0, .int .i64 fu] 60 (0, 0))) :=
          ((pgrown_set (w := w3) w1.heap.size 9 _).block (w.heap.size + 1) (by omega) (by simp; omega)).trans HB3.out
        have HR4 : Hid ((w3.setCell ⟨w1.heap.size, 9, none⟩ (.int .i64 (p.h0 - fa))).drew.drew.heap[w.heap.size + 2]? = some (.cells #[.int .u8 0, .int .u8 0, .int .u8 0, .int .u8 0, .int .u8 0, .int .u8 0, .int .u8 0, .int .u8 0, .int .i64 0, .int .i64 0, .int .i64 0, .slice none 0 0] 26 (0, 0))) :=
          ((pgrown_set (w := w3) w1.heap.size 9 _).block (w.heap.size + 2) (by omega) (by simp; omega)).trans HR3.out
        have Ho4 : Hid ((w3.setCell ⟨w1.heap.size, 9, none⟩ (.int .i64 (p.h0 - fa))).drew.drew.ownsRow (w.heap.size + 3) 60 11 (.slice A1 n1 c1) n1 (flatH p.held)) := own_set Ho3.out HQ3.out (by decide) _ _
        have Hw4 : Hid (Below w.heap.size w (w3.setCell ⟨w1.heap.size, 9, none⟩ (.int .i64 (p.h0 - fa))).drew.drew) := ((Hw3.out.setCell (by show w.heap.size ≤ w1.heap.size; omega) _).drew).drew
        clear x0 x1 x2 x3 x4 x5 x6 x7 x8 x9 x10 x11 xf y0 y1 y2 y3 y4 y5 y6 y7 y8 y9 y10 z0 z1 z2 z3 z4 z5 z6 z7 z8 z9 z10 z11 r0 r1 r2 r3 r4 r5 r6 r7 r8 r9 r10 r11 rf
        generalize (w3.setCell ⟨w1.heap.size, 9, none⟩ (.int .i64 (p.h0 - fa))).drew.drew = w4 at *
        have hl6 : w.heap.size + 2 < w4.heap.size := block_lt HR4.out
        have hl7 : w1.heap.size < w4.heap.size := block_lt HQ4.out
        obtain ⟨x0, x1, x2, x3, x4, x5, x6, x7, x8, x9, x10, x11⟩ := PBox.all (p := (⟨p.nm, p.no + 1, (p.h0 - fa), p.h1, p.held⟩ : Pu)) HQ4.out
        simp only at x0 x1 x2 x3 x4 x5 x6 x7 x8 x9 x10 x11
        obtain ⟨y0, y1, y2, y3, y4, y5, y6, y7, y8, y9, y10⟩ := HBox.all (h := (⟨fn, fa, 0, fu⟩ : Hd)) HB4.out
        have hn1 : n1 = n := by rw [← (ownsRow_cap Ho4.out).2]; exact Hl.out
        have hn1b : n1 ≤ 15 := by omega
        have HO5 := Lib.hid (Ho4.out.alloc (.cells #[.int .u8 (fn.x0 : Int), .int .u8 (fn.x1 : Int), .int .u8 (fn.x2 : Int), .int .u8 (fn.x3 : Int), .int .u8 (fn.x4 : Int), .int .u8 (fn.x5 : Int), .int .u8 (fn.x6 : Int), .int .u8 (fn.x7 : Int), .int .i64 fa, .int .i64 0, .int .i64 fu] 60))
        have HRl : Hid (Rd (w4.alloc (.cells #[.int .u8 (fn.x0 : Int), .int .u8 (fn.x1 : Int), .int .u8 (fn.x2 : Int), .int .u8 (fn.x3 : Int), .int .u8 (fn.x4 : Int), .int .u8 (fn.x5 : Int), .int .u8 (fn.x6 : Int), .int .u8 (fn.x7 : Int), .int .i64 fa, .int .i64 0, .int .i64 fu] 60)) (w4.heap.size + 1) 11 (some ⟨w4.heap.size, 0, none⟩) 1 (flatH [⟨fn, fa, 0, fu⟩])) := by
          have := Rd.newA (n := 1) (sz := 11) (xs := flatH [⟨fn, fa, 0, fu⟩]) w4 60 #[.int .u8 (fn.x0 : Int), .int .u8 (fn.x1 : Int), .int .u8 (fn.x2 : Int), .int .u8 (fn.x3 : Int), .int .u8 (fn.x4 : Int), .int .u8 (fn.x5 : Int), .int .u8 (fn.x6 : Int), .int .u8 (fn.x7 : Int), .int .i64 fa, .int .i64 0, .int .i64 fu] rfl rfl
          simp at this
          exact this
        have HQ5 := Lib.hid (block_alloc HQ4.out (.cells #[.int .u8 (fn.x0 : Int), .int .u8 (fn.x1 : Int), .int .u8 (fn.x2 : Int), .int .u8 (fn.x3 : Int), .int .u8 (fn.x4 : Int), .int .u8 (fn.x5 : Int), .int .u8 (fn.x6 : Int), .int .u8 (fn.x7 : Int), .int .i64 fa, .int .i64 0, .int .i64 fu] 60))
        have HR5 := Lib.hid (block_alloc HR4.out (.cells #[.int .u8 (fn.x0 : Int), .int .u8 (fn.x1 : Int), .int .u8 (fn.x2 : Int), .int .u8 (fn.x3 : Int), .int .u8 (fn.x4 : Int), .int .u8 (fn.x5 : Int), .int .u8 (fn.x6 : Int), .int .u8 (fn.x7 : Int), .int .i64 fa, .int .i64 0, .int .i64 fu] 60))
        have Hw5 := Lib.hid (Hw4.out.alloc (by omega) (.cells #[.int .u8 (fn.x0 : Int), .int .u8 (fn.x1 : Int), .int .u8 (fn.x2 : Int), .int .u8 (fn.x3 : Int), .int .u8 (fn.x4 : Int), .int .u8 (fn.x5 : Int), .int .u8 (fn.x6 : Int), .int .u8 (fn.x7 : Int), .int .i64 fa, .int .i64 0, .int .i64 fu] 60))
        clear hn1 hl5
        go_wp2_with (at_builtin; go_must (refine wpList_append_rdg (w4.alloc (.cells #[.int .u8 (fn.x0 : Int), .int .u8 (fn.x1 : Int), .int .u8 (fn.x2 : Int), .int .u8 (fn.x3 : Int), .int .u8 (fn.x4 : Int), .int .u8 (fn.x5 : Int), .int .u8 (fn.x6 : Int), .int .u8 (fn.x7 : Int), .int .i64 fa, .int .i64 0, .int .i64 fu] 60)) (by rfl) _ _ 24 (by rfl) (w.heap.size + 3) 60 i0 (.agg #[.int .u8 0, .int .u8 0, .int .u8 0, .int .u8 0, .int .u8 0, .int .u8 0, .int .u8 0, .int .u8 0, .int .i64 0, .int .i64 0, .int .i64 0]) 11 32 Try.underlying24 HI.out rfl (by decide) _ _ _ (by rfl) HO5.out (w4.heap.size + 1) (some ⟨w4.heap.size, 0, none⟩) 1 1 _ (by simp [Act.eval]) HRl.out (flatH_one _) (by omega) (by omega) (by simp; omega) ?_; intro v6 w6 ho6 hb6 hg6; obtain ⟨A6, c6, rfl⟩ := own_form ho6; have HQ6 := Lib.hid (block_grown HQ5.out hg6 (own_ne HO5.out HQ5.out (by decide))); have HR6 := Lib.hid (block_below HR5.out hb6 (by omega)); have Ho6 := Lib.hid ho6; have Hw6 := Lib.hid (Hw5.out.trans (hb6.mono (by omega))); clear ho6 hb6 hg6 x0 x1 x2 x3 x4 x5 x6 x7 x8 x9 x10 x11; obtain ⟨x0, x1, x2, x3, x4, x5, x6, x7, x8, x9, x10, x11⟩ := PBox.all (p := (⟨p.nm, p.no + 1, (p.h0 - fa), p.h1, p.held⟩ : Pu)) HQ6.out; simp only at x0 x1 x2 x3 x4 x5 x6 x7 x8 x9 x10 x11; have xf := block_free HQ6.out; have hr6 := HR6.out; have q := block_cell hr6; have r0 := q 0; have r1 := q 1; have r2 := q 2; have r3 := q 3; have r4 := q 4; have r5 := q 5; have r6 := q 6; have r7 := q 7; have r8 := q 8; have r9 := q 9; have r10 := q 10; have r11 := q 11; have rf := block_free hr6; simp at r0 r1 r2 r3 r4 r5 r6 r7 r8 r9 r10 r11; clear q hr6))
        rw [Hr.out]
        refine bodyPost_ret (v := .tuple #[.agg #[.int .u8 (p.nm.x0 : Int), .int .u8 (p.nm.x1 : Int), .int .u8 (p.nm.x2 : Int), .int .u8 (p.nm.x3 : Int), .int .u8 (p.nm.x4 : Int), .int .u8 (p.nm.x5 : Int), .int .u8 (p.nm.x6 : Int), .int .u8 (p.nm.x7 : Int), .int .i64 (p.no + 1), .int .i64 (p.h0 - fa), .int .i64 p.h1, .slice A6 (n1 + 1) c6], .int .i64 0]) (by simp [results, Try.results43, go_sem, r0, r1, r2, r3, r4, r5, r6, r7, r8, r9, r10, r11, hne1, hne2]) rfl ⟨A6, n1 + 1, c6, rfl, ?_, ?_⟩
        · refine pown_down (base := w.heap.size + 3) ?_ (by omega)
          repeat (first | refine ownsRow_setCell_below ?_ (by show w.heap.size + 2 < _; omega) _)
          have ho := own_set Ho6.out HQ6.out (by decide) 11 (.slice A6 (n1 + 1) c6)
          rw [← flatH_append] at ho
          exact ho
        · repeat refine Below.setCell ?_ (by first | (show w.heap.size ≤ w.heap.size + 2; omega) | (show w.heap.size ≤ w1.heap.size; omega)) _
          exact Hw6.out
      ·
        have Hfr : Hid (¬ ((1 : Int) < 0 ∨ 1 < (1 : Int))) := by show ¬ _; omega
        by_cases q3 : posB fa = false
        · have Hr : Hid (p.hold ⟨fn, fa, 1, fu⟩ = (2, pu0)) := by show _ = _; unfold Pu.hold; rw [if_pos Hn.out, if_neg Hfr.out, if_neg (by simp [q3])]
          go_wp2_with (first | (go_at_call 57; refine (pos_any _ _).mono ?_; rintro e w' ⟨rfl, rfl⟩) | (go_at_call 55; refine (height_any _ _).mono ?_; rintro e w' ⟨rfl, rfl⟩))
          rw [Hr.out]
          refine bodyPost_ret (v := .tuple #[.agg #[.int .u8 0, .int .u8 0, .int .u8 0, .int .u8 0, .int .u8 0, .int .u8 0, .int .u8 0, .int .u8 0, .int .i64 0, .int .i64 0, .int .i64 0, .slice none 0 0], .int .i64 2]) (by simp [results, Try.results43, go_sem, r0, r1, r2, r3, r4, r5, r6, r7, r8, r9, r10, r11]) rfl (givesChR_no rfl ?_)
          repeat refine Below.setCell ?_ (by show w.heap.size ≤ w.heap.size + 2; omega) _
          exact Hw2.out
        replace q3 : posB fa = true := by simpa using q3
        by_cases q4 : far fu = false
        · have Hr : Hid (p.hold ⟨fn, fa, 1, fu⟩ = (2, pu0)) := by show _ = _; unfold Pu.hold; rw [if_pos Hn.out, if_neg Hfr.out, if_neg (by simp [q4])]
          go_wp2_with (first | (go_at_call 57; refine (pos_any _ _).mono ?_; rintro e w' ⟨rfl, rfl⟩) | (go_at_call 55; refine (height_any _ _).mono ?_; rintro e w' ⟨rfl, rfl⟩))
          rw [Hr.out]
          refine bodyPost_ret (v := .tuple #[.agg #[.int .u8 0, .int .u8 0, .int .u8 0, .int .u8 0, .int .u8 0, .int .u8 0, .int .u8 0, .int .u8 0, .int .i64 0, .int .i64 0, .int .i64 0, .slice none 0 0], .int .i64 2]) (by simp [results, Try.results43, go_sem, r0, r1, r2, r3, r4, r5, r6, r7, r8, r9, r10, r11]) rfl (givesChR_no rfl ?_)
          repeat refine Below.setCell ?_ (by show w.heap.size ≤ w.heap.size + 2; omega) _
          exact Hw2.out
        replace q4 : far fu = true := by simpa using q4
        have Hpf : Hid ((posB fa && far fu) = true) := by show _ = _; simp [q3, q4]
        obtain ⟨m0, m1⟩ := posB_iff.1 q3
        by_cases q5 : 0 ≤ placeL p.held fn
        · have Hr : Hid (p.hold ⟨fn, fa, 1, fu⟩ = (7, pu0)) := by show _ = _; unfold Pu.hold; rw [if_pos Hn.out, if_neg Hfr.out, if_pos Hpf.out, if_pos q5]
          have q5' : decide (0 ≤ placeL p.held fn) = true := decide_eq_true q5
          clear q5
          go_wp2_with (first | (go_at_call 57; refine (pos_any _ _).mono ?_; rintro e w' ⟨rfl, rfl⟩) | (go_at_call 55; refine (height_any _ _).mono ?_; rintro e w' ⟨rfl, rfl⟩))
          refine (placer_any p A n c fn w2 H2.out).mono ?_
          rintro e w3 ⟨rfl, hb3⟩
          have HT3 := Lib.hid (block_below HT2.out hb3 (block_lt HT2.out))
          have HB3 := Lib.hid (block_below HB2.out hb3 (block_lt HB2.out))
          have HR3 := Lib.hid (block_below HR2.out hb3 (block_lt HR2.out))
          have HQ3 := Lib.hid (block_below HQ2.out hb3 (block_lt HQ2.out))
          have Ho3 := Lib.hid (own_below Ho2.out hb3)
          have Hw3 := Lib.hid (Hw2.out.trans (hb3.mono Hw2.out.size))
          clear hb3 z0 z1 z2 z3 z4 z5 z6 z7 z8 z9 z10 z11 y0 y1 y2 y3 y4 y5 y6 y7 y8 y9 y10 r0 r1 r2 r3 r4 r5 r6 r7 r8 r9 r10 r11 rf
          obtain ⟨z0, z1, z2, z3, z4, z5, z6, z7, z8, z9, z10, z11⟩ := PBox.all HT3.out
          obtain ⟨y0, y1, y2, y3, y4, y5, y6, y7, y8, y9, y10⟩ := HBox.all (h := (⟨fn, fa, 1, fu⟩ : Hd)) HB3.out
          have r := block_cell HR3.out
          have r0 := r 0; have r1 := r 1; have r2 := r 2; have r3 := r 3; have r4 := r 4; have r5 := r 5; have r6 := r 6; have r7 := r 7; have r8 := r 8; have r9 := r 9; have r10 := r 10; have r11 := r 11
          have rf := block_free HR3.out
          simp at r0 r1 r2 r3 r4 r5 r6 r7 r8 r9 r10 r11
          clear r
          go_wp2
          rw [Hr.out]
          refine bodyPost_ret (v := .tuple #[.agg #[.int .u8 0, .int .u8 0, .int .u8 0, .int .u8 0, .int .u8 0, .int .u8 0, .int .u8 0, .int .u8 0, .int .i64 0, .int .i64 0, .int .i64 0, .slice none 0 0], .int .i64 7]) (by simp [results, Try.results43, go_sem, r0, r1, r2, r3, r4, r5, r6, r7, r8, r9, r10, r11]) rfl (givesChR_no rfl ?_)
          repeat refine Below.setCell ?_ (by show w.heap.size ≤ w.heap.size + 2; omega) _
          exact Hw3.out
        have q5' : decide (0 ≤ placeL p.held fn) = false := decide_eq_false q5
        by_cases q6 : n = 16
        · have Hr : Hid (p.hold ⟨fn, fa, 1, fu⟩ = (8, pu0)) := by show _ = _; unfold Pu.hold; rw [if_pos Hn.out, if_neg Hfr.out, if_pos Hpf.out, if_neg q5, if_pos (by rw [Hl.out]; omega)]
          have q6' : ((n : Int) == 16) = true := by rw [beq_iff_eq]; omega
          clear q5 q6
          go_wp2_with (first | (go_at_call 57; refine (pos_any _ _).mono ?_; rintro e w' ⟨rfl, rfl⟩) | (go_at_call 55; refine (height_any _ _).mono ?_; rintro e w' ⟨rfl, rfl⟩))
          refine (placer_any p A n c fn w2 H2.out).mono ?_
          rintro e w3 ⟨rfl, hb3⟩
          have HT3 := Lib.hid (block_below HT2.out hb3 (block_lt HT2.out))
          have HB3 := Lib.hid (block_below HB2.out hb3 (block_lt HB2.out))
          have HR3 := Lib.hid (block_below HR2.out hb3 (block_lt HR2.out))
          have HQ3 := Lib.hid (block_below HQ2.out hb3 (block_lt HQ2.out))
          have Ho3 := Lib.hid (own_below Ho2.out hb3)
          have Hw3 := Lib.hid (Hw2.out.trans (hb3.mono Hw2.out.size))
          clear hb3 z0 z1 z2 z3 z4 z5 z6 z7 z8 z9 z10 z11 y0 y1 y2 y3 y4 y5 y6 y7 y8 y9 y10 r0 r1 r2 r3 r4 r5 r6 r7 r8 r9 r10 r11 rf
          obtain ⟨z0, z1, z2, z3, z4, z5, z6, z7, z8, z9, z10, z11⟩ := PBox.all HT3.out
          obtain ⟨y0, y1, y2, y3, y4, y5, y6, y7, y8, y9, y10⟩ := HBox.all (h := (⟨fn, fa, 1, fu⟩ : Hd)) HB3.out
          have r := block_cell HR3.out
          have r0 := r 0; have r1 := r 1; have r2 := r 2; have r3 := r 3; have r4 := r 4; have r5 := r 5; have r6 := r 6; have r7 := r 7; have r8 := r 8; have r9 := r 9; have r10 := r 10; have r11 := r 11
          have rf := block_free HR3.out
          simp at r0 r1 r2 r3 r4 r5 r6 r7 r8 r9 r10 r11
          clear r
          go_wp2
          rw [Hr.out]
          refine bodyPost_ret (v := .tuple #[.agg #[.int .u8 0, .int .u8 0, .int .u8 0, .int .u8 0, .int .u8 0, .int .u8 0, .int .u8 0, .int .u8 0, .int .i64 0, .int .i64 0, .int .i64 0, .slice none 0 0], .int .i64 8]) (by simp [results, Try.results43, go_sem, r0, r1, r2, r3, r4, r5, r6, r7, r8, r9, r10, r11]) rfl (givesChR_no rfl ?_)
          repeat refine Below.setCell ?_ (by show w.heap.size ≤ w.heap.size + 2; omega) _
          exact Hw3.out
        have q6' : ((n : Int) == 16) = false := by rw [beq_eq_false_iff_ne]; omega
        have hn15 : n ≤ 15 := by omega
        have Hq5 := Lib.hid q5
        have Hq6 : Hid (¬ 16 ≤ p.held.length) := by show ¬ _; rw [Hl.out]; omega
        clear q5 q6
        by_cases h3 : p.h1 < fa
        · have Hr : Hid (p.hold ⟨fn, fa, 1, fu⟩ = (21, pu0)) := by show _ = _; unfold Pu.hold; rw [if_pos Hn.out, if_neg Hfr.out, if_pos Hpf.out, if_neg Hq5.out, if_neg Hq6.out, if_pos (show p.have_ 1 < fa from h3)]
          have h3' : decide (p.h1 < fa) = true := decide_eq_true h3
          clear h3
          go_wp2_with (first | (go_at_call 57; refine (pos_any _ _).mono ?_; rintro e w' ⟨rfl, rfl⟩) | (go_at_call 55; refine (height_any _ _).mono ?_; rintro e w' ⟨rfl, rfl⟩))
          refine (placer_any p A n c fn w2 H2.out).mono ?_
          rintro e w3 ⟨rfl, hb3⟩
          have HT3 := Lib.hid (block_below HT2.out hb3 (block_lt HT2.out))
          have HB3 := Lib.hid (block_below HB2.out hb3 (block_lt HB2.out))
          have HR3 := Lib.hid (block_below HR2.out hb3 (block_lt HR2.out))
          have HQ3 := Lib.hid (block_below HQ2.out hb3 (block_lt HQ2.out))
          have Ho3 := Lib.hid (own_below Ho2.out hb3)
          have Hw3 := Lib.hid (Hw2.out.trans (hb3.mono Hw2.out.size))
          clear hb3 z0 z1 z2 z3 z4 z5 z6 z7 z8 z9 z10 z11 y0 y1 y2 y3 y4 y5 y6 y7 y8 y9 y10 r0 r1 r2 r3 r4 r5 r6 r7 r8 r9 r10 r11 rf
          obtain ⟨z0, z1, z2, z3, z4, z5, z6, z7, z8, z9, z10, z11⟩ := PBox.all HT3.out
          obtain ⟨y0, y1, y2, y3, y4, y5, y6, y7, y8, y9, y10⟩ := HBox.all (h := (⟨fn, fa, 1, fu⟩ : Hd)) HB3.out
          have r := block_cell HR3.out
          have r0 := r 0; have r1 := r 1; have r2 := r 2; have r3 := r 3; have r4 := r 4; have r5 := r 5; have r6 := r 6; have r7 := r 7; have r8 := r 8; have r9 := r 9; have r10 := r 10; have r11 := r 11
          have rf := block_free HR3.out
          simp at r0 r1 r2 r3 r4 r5 r6 r7 r8 r9 r10 r11
          clear r
          go_wp2
          go_region
          go_wp2
          rw [Hr.out]
          refine bodyPost_ret (v := .tuple #[.agg #[.int .u8 0, .int .u8 0, .int .u8 0, .int .u8 0, .int .u8 0, .int .u8 0, .int .u8 0, .int .u8 0, .int .i64 0, .int .i64 0, .int .i64 0, .slice none 0 0], .int .i64 21]) (by simp [results, Try.results43, go_sem, r0, r1, r2, r3, r4, r5, r6, r7, r8, r9, r10, r11]) rfl (givesChR_no rfl ?_)
          refine Below.drew ?_
          repeat refine Below.setCell ?_ (by show w.heap.size ≤ w.heap.size + 2; omega) _
          exact Hw3.out
        have h3' : decide (p.h1 < fa) = false := decide_eq_false h3
        have h3'' : fa ≤ p.h1 := by omega
        have Hr : Hid (p.hold ⟨fn, fa, 1, fu⟩ = (0, ⟨p.nm, p.no + 1, p.h0, (p.h1 - fa), p.held ++ [⟨fn, fa, 1, fu⟩]⟩)) := by show _ = _; unfold Pu.hold; rw [if_pos Hn.out, if_neg Hfr.out, if_pos Hpf.out, if_neg Hq5.out, if_neg Hq6.out, if_neg (show ¬ p.have_ 1 < fa from h3)]; rfl
        clear h3
        go_wp2_with (first | (go_at_call 57; refine (pos_any _ _).mono ?_; rintro e w' ⟨rfl, rfl⟩) | (go_at_call 55; refine (height_any _ _).mono ?_; rintro e w' ⟨rfl, rfl⟩))
        refine (placer_any p A n c fn w2 H2.out).mono ?_
        rintro e w3 ⟨rfl, hb3⟩
        have HT3 := Lib.hid (block_below HT2.out hb3 (block_lt HT2.out))
        have HB3 := Lib.hid (block_below HB2.out hb3 (block_lt HB2.out))
        have HR3 := Lib.hid (block_below HR2.out hb3 (block_lt HR2.out))
        have HQ3 := Lib.hid (block_below HQ2.out hb3 (block_lt HQ2.out))
        have Ho3 := Lib.hid (own_below Ho2.out hb3)
        have Hw3 := Lib.hid (Hw2.out.trans (hb3.mono Hw2.out.size))
        clear hb3 z0 z1 z2 z3 z4 z5 z6 z7 z8 z9 z10 z11 y0 y1 y2 y3 y4 y5 y6 y7 y8 y9 y10 r0 r1 r2 r3 r4 r5 r6 r7 r8 r9 r10 r11 rf
        obtain ⟨z0, z1, z2, z3, z4, z5, z6, z7, z8, z9, z10, z11⟩ := PBox.all HT3.out
        obtain ⟨y0, y1, y2, y3, y4, y5, y6, y7, y8, y9, y10⟩ := HBox.all (h := (⟨fn, fa, 1, fu⟩ : Hd)) HB3.out
        have r := block_cell HR3.out
        have r0 := r 0; have r1 := r 1; have r2 := r 2; have r3 := r 3; have r4 := r 4; have r5 := r 5; have r6 := r 6; have r7 := r 7; have r8 := r 8; have r9 := r 9; have r10 := r 10; have r11 := r 11
        have rf := block_free HR3.out
        simp at r0 r1 r2 r3 r4 r5 r6 r7 r8 r9 r10 r11
        clear r
        obtain ⟨x0, x1, x2, x3, x4, x5, x6, x7, x8, x9, x10, x11⟩ := PBox.all (p := (⟨p.nm, p.no + 1, p.h0, p.h1, p.held⟩ : Pu)) HQ3.out
        simp only at x0 x1 x2 x3 x4 x5 x6 x7 x8 x9 x10 x11
        have xf := block_free HQ3.out
        go_wp2
        go_region
        go_wp2
        go_region
        have hl5 : w.heap.size + 2 < w3.heap.size := block_lt HR3.out
        have HQ4 : Hid ((w3.setCell ⟨w1.heap.size, 10, none⟩ (.int .i64 (p.h1 - fa))).drew.drew.heap[w1.heap.size]? = some (.cells #[.int .u8 (p.nm.x0 : Int), .int .u8 (p.nm.x1 : Int), .int .u8 (p.nm.x2 : Int), .int .u8 (p.nm.x3 : Int), .int .u8 (p.nm.x4 : Int), .int .u8 (p.nm.x5 : Int), .int .u8 (p.nm.x6 : Int), .int .u8 (p.nm.x7 : Int), .int .i64 (p.no + 1), .int .i64 p.h0, .int .i64 (p.h1 - fa), .slice A1 n1 c1] 26 (0, 0))) := by
          have := Joins.block_setCell (i := 10) HQ3.out (.int .i64 (p.h1 - fa))
          simp at this
          exact this
        have HB4 : Hid ((w3.setCell ⟨w1.heap.size, 10, none⟩ (.int .i64 (p.h1 - fa))).drew.drew.heap[w.heap.size + 1]? = some (.cells #[.int .u8 (fn.x0 : Int), .int .u8 (fn.x1 : Int), .int .u8 (fn.x2 : Int), .int .u8 (fn.x3 : Int), .int .u8 (fn.x4 : Int), .int .u8 (fn.x5 : Int), .int .u8 (fn.x6 : Int), .int .u8 (fn.x7 : Int), .int .i64 fa, .int .i64 1, .int .i64 fu] 60 (0, 0))) :=
          ((pgrown_set (w := w3) w1.heap.size 10 _).block (w.heap.size + 1) (by omega) (by simp; omega)).trans HB3.out
        have HR4 : Hid ((w3.setCell ⟨w1.heap.size, 10, none⟩ (.int .i64 (p.h1 - fa))).drew.drew.heap[w.heap.size + 2]? = some (.cells #[.int .u8 0, .int .u8 0, .int .u8 0, .int .u8 0, .int .u8 0, .int .u8 0, .int .u8 0, .int .u8 0, .int .i64 0, .int .i64 0, .int .i64 0, .slice none 0 0] 26 (0, 0))) :=
          ((pgrown_set (w := w3) w1.heap.size 10 _).block (w.heap.size + 2) (by omega) (by simp; omega)).trans HR3.out
        have Ho4 : Hid ((w3.setCell ⟨w1.heap.size, 10, none⟩ (.int .i64 (p.h1 - fa))).drew.drew.ownsRow (w.heap.size + 3) 60 11 (.slice A1 n1 c1) n1 (flatH p.held)) := own_set Ho3.out HQ3.out (by decide) _ _
        have Hw4 : Hid (Below w.heap.size w (w3.setCell ⟨w1.heap.size, 10, none⟩ (.int .i64 (p.h1 - fa))).drew.drew) := ((Hw3.out.setCell (by show w.heap.size ≤ w1.heap.size; omega) _).drew).drew
        clear x0 x1 x2 x3 x4 x5 x6 x7 x8 x9 x10 x11 xf y0 y1 y2 y3 y4 y5 y6 y7 y8 y9 y10 z0 z1 z2 z3 z4 z5 z6 z7 z8 z9 z10 z11 r0 r1 r2 r3 r4 r5 r6 r7 r8 r9 r10 r11 rf
        generalize (w3.setCell ⟨w1.heap.size, 10, none⟩ (.int .i64 (p.h1 - fa))).drew.drew = w4 at *
        have hl6 : w.heap.size + 2 < w4.heap.size := block_lt HR4.out
        have hl7 : w1.heap.size < w4.heap.size := block_lt HQ4.out
        obtain ⟨x0, x1, x2, x3, x4, x5, x6, x7, x8, x9, x10, x11⟩ := PBox.all (p := (⟨p.nm, p.no + 1, p.h0, (p.h1 - fa), p.held⟩ : Pu)) HQ4.out
        simp only at x0 x1 x2 x3 x4 x5 x6 x7 x8 x9 x10 x11
        obtain ⟨y0, y1, y2, y3, y4, y5, y6, y7, y8, y9, y10⟩ := HBox.all (h := (⟨fn, fa, 1, fu⟩ : Hd)) HB4.out
        have hn1 : n1 = n := by rw [← (ownsRow_cap Ho4.out).2]; exact Hl.out
        have hn1b : n1 ≤ 15 := by omega
        have HO5 := Lib.hid (Ho4.out.alloc (.cells #[.int .u8 (fn.x0 : Int), .int .u8 (fn.x1 : Int), .int .u8 (fn.x2 : Int), .int .u8 (fn.x3 : Int), .int .u8 (fn.x4 : Int), .int .u8 (fn.x5 : Int), .int .u8 (fn.x6 : Int), .int .u8 (fn.x7 : Int), .int .i64 fa, .int .i64 1, .int .i64 fu] 60))
        have HRl : Hid (Rd (w4.alloc (.cells #[.int .u8 (fn.x0 : Int), .int .u8 (fn.x1 : Int), .int .u8 (fn.x2 : Int), .int .u8 (fn.x3 : Int), .int .u8 (fn.x4 : Int), .int .u8 (fn.x5 : Int), .int .u8 (fn.x6 : Int), .int .u8 (fn.x7 : Int), .int .i64 fa, .int .i64 1, .int .i64 fu] 60)) (w4.heap.size + 1) 11 (some ⟨w4.heap.size, 0, none⟩) 1 (flatH [⟨fn, fa, 1, fu⟩])) := by
          have := Rd.newA (n := 1) (sz := 11) (xs := flatH [⟨fn, fa, 1, fu⟩]) w4 60 #[.int .u8 (fn.x0 : Int), .int .u8 (fn.x1 : Int), .int .u8 (fn.x2 : Int), .int .u8 (fn.x3 : Int), .int .u8 (fn.x4 : Int), .int .u8 (fn.x5 : Int), .int .u8 (fn.x6 : Int), .int .u8 (fn.x7 : Int), .int .i64 fa, .int .i64 1, .int .i64 fu] rfl rfl
          simp at this
          exact this
        have HQ5 := Lib.hid (block_alloc HQ4.out (.cells #[.int .u8 (fn.x0 : Int), .int .u8 (fn.x1 : Int), .int .u8 (fn.x2 : Int), .int .u8 (fn.x3 : Int), .int .u8 (fn.x4 : Int), .int .u8 (fn.x5 : Int), .int .u8 (fn.x6 : Int), .int .u8 (fn.x7 : Int), .int .i64 fa, .int .i64 1, .int .i64 fu] 60))
        have HR5 := Lib.hid (block_alloc HR4.out (.cells #[.int .u8 (fn.x0 : Int), .int .u8 (fn.x1 : Int), .int .u8 (fn.x2 : Int), .int .u8 (fn.x3 : Int), .int .u8 (fn.x4 : Int), .int .u8 (fn.x5 : Int), .int .u8 (fn.x6 : Int), .int .u8 (fn.x7 : Int), .int .i64 fa, .int .i64 1, .int .i64 fu] 60))
        have Hw5 := Lib.hid (Hw4.out.alloc (by omega) (.cells #[.int .u8 (fn.x0 : Int), .int .u8 (fn.x1 : Int), .int .u8 (fn.x2 : Int), .int .u8 (fn.x3 : Int), .int .u8 (fn.x4 : Int), .int .u8 (fn.x5 : Int), .int .u8 (fn.x6 : Int), .int .u8 (fn.x7 : Int), .int .i64 fa, .int .i64 1, .int .i64 fu] 60))
        clear hn1 hl5
        go_wp2_with (at_builtin; go_must (refine wpList_append_rdg (w4.alloc (.cells #[.int .u8 (fn.x0 : Int), .int .u8 (fn.x1 : Int), .int .u8 (fn.x2 : Int), .int .u8 (fn.x3 : Int), .int .u8 (fn.x4 : Int), .int .u8 (fn.x5 : Int), .int .u8 (fn.x6 : Int), .int .u8 (fn.x7 : Int), .int .i64 fa, .int .i64 1, .int .i64 fu] 60)) (by rfl) _ _ 24 (by rfl) (w.heap.size + 3) 60 i0 (.agg #[.int .u8 0, .int .u8 0, .int .u8 0, .int .u8 0, .int .u8 0, .int .u8 0, .int .u8 0, .int .u8 0, .int .i64 0, .int .i64 0, .int .i64 0]) 11 32 Try.underlying24 HI.out rfl (by decide) _ _ _ (by rfl) HO5.out (w4.heap.size + 1) (some ⟨w4.heap.size, 0, none⟩) 1 1 _ (by simp [Act.eval]) HRl.out (flatH_one _) (by omega) (by omega) (by simp; omega) ?_; intro v6 w6 ho6 hb6 hg6; obtain ⟨A6, c6, rfl⟩ := own_form ho6; have HQ6 := Lib.hid (block_grown HQ5.out hg6 (own_ne HO5.out HQ5.out (by decide))); have HR6 := Lib.hid (block_below HR5.out hb6 (by omega)); have Ho6 := Lib.hid ho6; have Hw6 := Lib.hid (Hw5.out.trans (hb6.mono (by omega))); clear ho6 hb6 hg6 x0 x1 x2 x3 x4 x5 x6 x7 x8 x9 x10 x11; obtain ⟨x0, x1, x2, x3, x4, x5, x6, x7, x8, x9, x10, x11⟩ := PBox.all (p := (⟨p.nm, p.no + 1, p.h0, (p.h1 - fa), p.held⟩ : Pu)) HQ6.out; simp only at x0 x1 x2 x3 x4 x5 x6 x7 x8 x9 x10 x11; have xf := block_free HQ6.out; have hr6 := HR6.out; have q := block_cell hr6; have r0 := q 0; have r1 := q 1; have r2 := q 2; have r3 := q 3; have r4 := q 4; have r5 := q 5; have r6 := q 6; have r7 := q 7; have r8 := q 8; have r9 := q 9; have r10 := q 10; have r11 := q 11; have rf := block_free hr6; simp at r0 r1 r2 r3 r4 r5 r6 r7 r8 r9 r10 r11; clear q hr6))
        rw [Hr.out]
        refine bodyPost_ret (v := .tuple #[.agg #[.int .u8 (p.nm.x0 : Int), .int .u8 (p.nm.x1 : Int), .int .u8 (p.nm.x2 : Int), .int .u8 (p.nm.x3 : Int), .int .u8 (p.nm.x4 : Int), .int .u8 (p.nm.x5 : Int), .int .u8 (p.nm.x6 : Int), .int .u8 (p.nm.x7 : Int), .int .i64 (p.no + 1), .int .i64 p.h0, .int .i64 (p.h1 - fa), .slice A6 (n1 + 1) c6], .int .i64 0]) (by simp [results, Try.results43, go_sem, r0, r1, r2, r3, r4, r5, r6, r7, r8, r9, r10, r11, hne1, hne2]) rfl ⟨A6, n1 + 1, c6, rfl, ?_, ?_⟩
        · refine pown_down (base := w.heap.size + 3) ?_ (by omega)
          repeat (first | refine ownsRow_setCell_below ?_ (by show w.heap.size + 2 < _; omega) _)
          have ho := own_set Ho6.out HQ6.out (by decide) 11 (.slice A6 (n1 + 1) c6)
          rw [← flatH_append] at ho
          exact ho
        · repeat refine Below.setCell ?_ (by first | (show w.heap.size ≤ w.heap.size + 2; omega) | (show w.heap.size ≤ w1.heap.size; omega)) _
          exact Hw6.out
    · have b0 : (h.fr != 0) = true := by rw [bne_iff_ne]; omega
      have b1 : (h.fr != 1) = true := by rw [bne_iff_ne]; omega
      have Hr : Hid (p.hold h = (28, pu0)) := by show _ = _; unfold Pu.hold; rw [if_pos Hn.out, if_pos (by omega)]
      clear hfr
      go_wp2
      rw [Hr.out]
      refine bodyPost_ret (v := .tuple #[.agg #[.int .u8 0, .int .u8 0, .int .u8 0, .int .u8 0, .int .u8 0, .int .u8 0, .int .u8 0, .int .u8 0, .int .i64 0, .int .i64 0, .int .i64 0, .slice none 0 0], .int .i64 28]) (by simp [results, Try.results43, go_sem, r0, r1, r2, r3, r4, r5, r6, r7, r8, r9, r10, r11]) rfl (givesChR_no rfl ?_)
      repeat refine Below.setCell ?_ (by show w.heap.size ≤ w.heap.size + 2; omega) _
      exact Hw2.out
  · have hq : (en, q) = (p.next, pu0) := by rw [← Hnp.out, nextP_no hn]
    injection hq with hq1 hq2
    subst hq1
    subst hq2
    have b1 : (p.next != 0) = true := by simpa using hn
    have Hr := Lib.hid (hold_next (d := h) hn)
    clear hn Hnp
    go_wp2
    rw [Hr.out]
    refine bodyPost_ret (v := .tuple #[.agg #[.int .u8 0, .int .u8 0, .int .u8 0, .int .u8 0, .int .u8 0, .int .u8 0, .int .u8 0, .int .u8 0, .int .i64 0, .int .i64 0, .int .i64 0, .slice none 0 0], .int .i64 p.next]) (by simp [results, Try.results43, go_sem, r0, r1, r2, r3, r4, r5, r6, r7, r8, r9, r10, r11]) rfl (givesChR_no rfl ?_)
    repeat refine Below.setCell ?_ (by show w.heap.size ≤ w.heap.size + 2; omega) _
    exact Hw2.out
end Go.Proofs.Ytjiecnoplnaahaa
