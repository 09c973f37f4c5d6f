/- The walk of the reference's next of a purse. Conditions: bounds. -/
import Derived.Test.YtjiecnoplnaahaaPuV
import Derived.Test.YtjiecnoplnaahaaPuN
import Derived.Test.YtjiecnoplnaahaaPuT0
import Derived.Deep.RegionHeld3
import Derived.IntWalk
namespace Go.Proofs.Ytjiecnoplnaahaa
open Go.RowKit Go.Lib


/-- A reference's deed's answer. -/
def GivesChR (r : Int × Pu) (w : World) (e : Ending) (w' : World) : Prop :=
  ∃ A n c, e = .returned (.tuple #[.agg #[.int .u8 (r.2.nm.x0 : Int), .int .u8 (r.2.nm.x1 : Int), .int .u8 (r.2.nm.x2 : Int), .int .u8 (r.2.nm.x3 : Int), .int .u8 (r.2.nm.x4 : Int), .int .u8 (r.2.nm.x5 : Int), .int .u8 (r.2.nm.x6 : Int), .int .u8 (r.2.nm.x7 : Int), .int .i64 r.2.no, .int .i64 r.2.h0, .int .i64 r.2.h1, .slice A n c], .int .i64 r.1]) ∧ w'.ownsRow w.heap.size 60 11 (.slice A n c) n (flatH r.2.held) ∧ Below w.heap.size w w'
theorem givesChR_no {r : Int × Pu} {w w' : World} {k : Int} (hr : r = (k, pu0)) (hb : Below w.heap.size w w') :
    GivesChR r w (.returned (.tuple #[.agg #[.int .u8 0, .int .u8 0, .int .u8 0, .int .u8 0, .int .u8 0, .int .u8 0, .int .u8 0, .int .u8 0, .int .i64 0, .int .i64 0, .int .i64 0, .slice none 0 0], .int .i64 k])) w' := by
  subst hr
  exact ⟨none, 0, 0, rfl, World.ownsRow_nil _ _ _ _, hb⟩
def Pu.nextP (p : Pu) : Int × Pu := if p.next = 0 then (0, p.more) else (p.next, pu0)
theorem nextP_check {p : Pu} (h : p.check ≠ 0) : p.nextP = (3, pu0) := by
  have : p.next = 3 := by unfold Pu.next; rw [if_neg h]
  unfold Pu.nextP; rw [this, if_neg (by decide)]
theorem nextP_spent {p : Pu} (h : p.check = 0) (h2 : p.no = 1099511627776) : p.nextP = (17, pu0) := by
  have : p.next = 17 := by unfold Pu.next; rw [if_pos h, if_pos h2]
  unfold Pu.nextP; rw [this, if_neg (by decide)]
theorem nextP_good {p : Pu} (h : p.check = 0) (h2 : p.no ≠ 1099511627776) : p.nextP = (0, p.more) := by
  unfold Pu.nextP; rw [if_pos (next_eq h h2)]
set_option maxRecDepth 100000 in
set_option maxHeartbeats 2000000 in
theorem nextr_any (p : Pu) (A : Option Addr) (n c : Nat) (w : World) (h : PuV.At p A n c w) :
    Calls Try.prog 75 #[.agg #[.int .u8 (p.nm.x0 : Int), .int .u8 (p.nm.x1 : Int), .int .u8 (p.nm.x2 : Int), .int .u8 (p.nm.x3 : Int), .int .u8 (p.nm.x4 : Int), .int .u8 (p.nm.x5 : Int), .int .u8 (p.nm.x6 : Int), .int .u8 (p.nm.x7 : Int), .int .i64 p.no, .int .i64 p.h0, .int .i64 p.h1, .slice A n c]] w (GivesChR p.nextP w) := by
  obtain ⟨i0, hi, hz0, hz1, hz2⟩ := info_parts info_HeldR
  have HI := Lib.hid (And.intro hi (And.intro hz0 (And.intro hz1 hz2))); clear hi hz0 hz1 hz2
  have HT : Hid (((w.alloc (.cells #[.int .u8 (p.nm.x0 : Int), .int .u8 (p.nm.x1 : Int), .int .u8 (p.nm.x2 : Int), .int .u8 (p.nm.x3 : Int), .int .u8 (p.nm.x4 : Int), .int .u8 (p.nm.x5 : Int), .int .u8 (p.nm.x6 : Int), .int .u8 (p.nm.x7 : Int), .int .i64 p.no, .int .i64 p.h0, .int .i64 p.h1, .slice A n c] 26)).alloc (.cells #[.int .u8 0, .int .u8 0, .int .u8 0, .int .u8 0, .int .u8 0, .int .u8 0, .int .u8 0, .int .u8 0, .int .i64 0, .int .i64 0, .int .i64 0, .slice none 0 0] 26)).heap[w.heap.size]? = some (.cells #[.int .u8 (p.nm.x0 : Int), .int .u8 (p.nm.x1 : Int), .int .u8 (p.nm.x2 : Int), .int .u8 (p.nm.x3 : Int), .int .u8 (p.nm.x4 : Int), .int .u8 (p.nm.x5 : Int), .int .u8 (p.nm.x6 : Int), .int .u8 (p.nm.x7 : Int), .int .i64 p.no, .int .i64 p.h0, .int .i64 p.h1, .slice A n c] 26 (0, 0))) := block_alloc (heap_alloc_new _ _) _
  have HR : Hid (((w.alloc (.cells #[.int .u8 (p.nm.x0 : Int), .int .u8 (p.nm.x1 : Int), .int .u8 (p.nm.x2 : Int), .int .u8 (p.nm.x3 : Int), .int .u8 (p.nm.x4 : Int), .int .u8 (p.nm.x5 : Int), .int .u8 (p.nm.x6 : Int), .int .u8 (p.nm.x7 : Int), .int .i64 p.no, .int .i64 p.h0, .int .i64 p.h1, .slice A n c] 26)).alloc (.cells #[.int .u8 0, .int .u8 0, .int .u8 0, .int .u8 0, .int .u8 0, .int .u8 0, .int .u8 0, .int .u8 0, .int .i64 0, .int .i64 0, .int .i64 0, .slice none 0 0] 26)).heap[w.heap.size + 1]? = some (.cells #[.int .u8 0, .int .u8 0, .int .u8 0, .int .u8 0, .int .u8 0, .int .u8 0, .int .u8 0, .int .u8 0, .int .i64 0, .int .i64 0, .int .i64 0, .slice none 0 0] 26 (0, 0))) := alloc_at (by simp)
  have Hw := Lib.hid (below_two w (.cells #[.int .u8 (p.nm.x0 : Int), .int .u8 (p.nm.x1 : Int), .int .u8 (p.nm.x2 : Int), .int .u8 (p.nm.x3 : Int), .int .u8 (p.nm.x4 : Int), .int .u8 (p.nm.x5 : Int), .int .u8 (p.nm.x6 : Int), .int .u8 (p.nm.x7 : Int), .int .i64 p.no, .int .i64 p.h0, .int .i64 p.h1, .slice A n c] 26) (.cells #[.int .u8 0, .int .u8 0, .int .u8 0, .int .u8 0, .int .u8 0, .int .u8 0, .int .u8 0, .int .u8 0, .int .i64 0, .int .i64 0, .int .i64 0, .slice none 0 0] 26))
  have Hz : Hid (((w.alloc (.cells #[.int .u8 (p.nm.x0 : Int), .int .u8 (p.nm.x1 : Int), .int .u8 (p.nm.x2 : Int), .int .u8 (p.nm.x3 : Int), .int .u8 (p.nm.x4 : Int), .int .u8 (p.nm.x5 : Int), .int .u8 (p.nm.x6 : Int), .int .u8 (p.nm.x7 : Int), .int .i64 p.no, .int .i64 p.h0, .int .i64 p.h1, .slice A n c] 26)).alloc (.cells #[.int .u8 0, .int .u8 0, .int .u8 0, .int .u8 0, .int .u8 0, .int .u8 0, .int .u8 0, .int .u8 0, .int .i64 0, .int .i64 0, .int .i64 0, .slice none 0 0] 26)).heap.size = w.heap.size + 2) := by show _ = _; simp
  have H := Lib.hid (h.up Hw.out)
  have hsm := h.small
  clear h
  go_enter Try.func75, Try.ntmps75
  go_wp2_with fail
  refine (checkr_any p A n c _ H.out).mono ?_
  generalize ((w.alloc (.cells #[.int .u8 (p.nm.x0 : Int), .int .u8 (p.nm.x1 : Int), .int .u8 (p.nm.x2 : Int), .int .u8 (p.nm.x3 : Int), .int .u8 (p.nm.x4 : Int), .int .u8 (p.nm.x5 : Int), .int .u8 (p.nm.x6 : Int), .int .u8 (p.nm.x7 : Int), .int .i64 p.no, .int .i64 p.h0, .int .i64 p.h1, .slice A n c] 26)).alloc (.cells #[.int .u8 0, .int .u8 0, .int .u8 0, .int .u8 0, .int .u8 0, .int .u8 0, .int .u8 0, .int .u8 0, .int .i64 0, .int .i64 0, .int .i64 0, .slice none 0 0] 26)) = w0 at *
  rintro e w1 ⟨rfl, hb1⟩
  have HT1 := Lib.hid (block_below HT.out hb1 (by rw [Hz.out]; omega))
  have HR1 := Lib.hid (block_below HR.out hb1 (by rw [Hz.out]; omega))
  have Hw1 := Lib.hid (Hw.out.trans (hb1.mono Hw.out.size))
  have H1 := Lib.hid (H.out.up hb1)
  have Hz1 : Hid (w.heap.size + 2 ≤ w1.heap.size) := by show _ ≤ _; have := hb1.size; have := Hz.out; omega
  clear hb1
  by_cases hc : p.check = 0
  · have b1 : (p.check != 0) = false := by simpa using hc
    have Hc := Lib.hid hc
    have hnn := (check_iff.1 hc).1
    obtain ⟨no0, no1⟩ := hnn
    clear hc
    obtain ⟨z0, z1, z2, z3, z4, z5, z6, z7, z8, z9, z10, z11⟩ := PBox.all HT1.out
    by_cases hs : p.no = 1099511627776
    · have b2 : (p.no == 1099511627776) = true := by simpa using hs
      have Hr := Lib.hid (nextP_spent Hc.out hs)
      have r := block_cell HR1.out
      have r0 := r 0; have r1 := r 1; have r2 := r 2; have r3 := r 3; have r4 := r 4; have r5 := r 5; have r6 := r 6; have r7 := r 7; have r8 := r 8; have r9 := r 9; have r10 := r 10; have r11 := r 11
      have rf := block_free HR1.out
      simp at r0 r1 r2 r3 r4 r5 r6 r7 r8 r9 r10 r11
      clear r
      clear hs
      go_wp2
      rw [Hr.out]
      refine bodyPost_ret (v := .tuple #[.agg #[.int .u8 0, .int .u8 0, .int .u8 0, .int .u8 0, .int .u8 0, .int .u8 0, .int .u8 0, .int .u8 0, .int .i64 0, .int .i64 0, .int .i64 0, .slice none 0 0], .int .i64 17]) (by simp [results, Try.results75, go_sem, r0, r1, r2, r3, r4, r5, r6, r7, r8, r9, r10, r11]) rfl (givesChR_no rfl ?_)
      repeat refine Below.setCell ?_ (by show w.heap.size ≤ w.heap.size + 1; omega) _
      exact Hw1.out
    · have b2 : (p.no == 1099511627776) = false := by simpa using hs
      have Hs := Lib.hid hs
      have Hr := Lib.hid (nextP_good Hc.out hs)
      clear hs
      have HO1 : Hid ((w1.drew.alloc (.cells #[] 60)).ownsRow w1.heap.size 60 11 (.slice (some ⟨w1.heap.size, 0, none⟩) 0 0) 0 (flatH [])) :=
        World.ownsRow_made (base := w1.heap.size) (e := 60) (size := 11) w1.drew #[] 0 (Nat.le_refl _) (by decide) rfl
      have HRd := Lib.hid (show Rd (w1.drew.alloc (.cells #[] 60)) w1.heap.size 11 A n (flatH p.held) from (H1.out.rd.drew).alloc (Nat.le_refl _) _)
      have HRz := Lib.hid (block_alloc (w := w1.drew) HR1.out (.cells #[] 60))
      have HTz := Lib.hid (block_alloc (w := w1.drew) HT1.out (.cells #[] 60))
      have Hwz := Lib.hid ((Hw1.out.drew).alloc (by exact Hw1.out.size) (.cells #[] 60))
      have hb2 : w.heap.size + 2 ≤ w1.heap.size := Hz1.out
      have hb3 : w.heap.size < w1.heap.size := by omega
      have hb5 : w.heap.size + 1 < w1.heap.size := by omega
      have hwrap : IntKind.i64.wrap (p.no + 1) = p.no + 1 := IntWalk.i64_in _ (by omega)
      go_wp2
      go_region_held3 (fun w' => w'.cell? ⟨w.heap.size, 0, none⟩ = some (.int .u8 (p.nm.x0 : Int)) ∧ w'.cell? ⟨w.heap.size, 1, none⟩ = some (.int .u8 (p.nm.x1 : Int)) ∧ w'.cell? ⟨w.heap.size, 2, none⟩ = some (.int .u8 (p.nm.x2 : Int)) ∧ w'.cell? ⟨w.heap.size, 3, none⟩ = some (.int .u8 (p.nm.x3 : Int)) ∧ w'.cell? ⟨w.heap.size, 4, none⟩ = some (.int .u8 (p.nm.x4 : Int)) ∧ w'.cell? ⟨w.heap.size, 5, none⟩ = some (.int .u8 (p.nm.x5 : Int)) ∧ w'.cell? ⟨w.heap.size, 6, none⟩ = some (.int .u8 (p.nm.x6 : Int)) ∧ w'.cell? ⟨w.heap.size, 7, none⟩ = some (.int .u8 (p.nm.x7 : Int)) ∧ w'.cell? ⟨w.heap.size, 8, none⟩ = some (.int .i64 p.no) ∧ w'.cell? ⟨w.heap.size, 9, none⟩ = some (.int .i64 p.h0) ∧ w'.cell? ⟨w.heap.size, 10, none⟩ = some (.int .i64 p.h1) ∧ w'.cell? ⟨w.heap.size, 11, none⟩ = some (.slice A n c))
        (first | with_reducible exact PBox.all HT4s.out | with_reducible exact PBox.all HT4.out | with_reducible exact PBox.all HTz.out | with_reducible exact PBox.all HT1.out | go_keep)
        ((refine step_append_rdg (w1.drew.alloc (.cells #[] 60)) (by rfl) _ _ 24 (by rfl) w1.heap.size 60 i0 (.agg #[.int .u8 0, .int .u8 0, .int .u8 0, .int .u8 0, .int .u8 0, .int .u8 0, .int .u8 0, .int .u8 0, .int .i64 0, .int .i64 0, .int .i64 0]) 11 32 Try.underlying24 HI.out rfl (by decide) _ _ _ (by rfl) HO1.out w1.heap.size A n c _ (by simp [Act.eval]) HRd.out (flatH_one _) (by omega) (by omega) (by simp) ?_; go_must (intro v4 w4 ho4 hb4 hg4; obtain ⟨A4, c4, rfl⟩ := own_form ho4; have HB4 := Lib.hid (block_below HRz.out hb4 (by omega)); have HT4 := Lib.hid (block_below HTz.out hb4 (by omega)); have HT4s := Lib.hid (((set12 HB4.out rfl ⟨p.nm, p.no + 1, p.h0, p.h1, p.held⟩ A4 (0 + n) c4).2.block w.heap.size (block_lt HT4.out) (by simp)).trans HT4.out); have q := block_cell HB4.out; have q0 := q 0; have q1 := q 1; have q2 := q 2; have q3 := q 3; have q4 := q 4; have q5 := q 5; have q6 := q 6; have q7 := q 7; have q8 := q 8; have q9 := q 9; have q10 := q 10; have q11 := q 11; have qf := block_free HB4.out; simp at q0 q1 q2 q3 q4 q5 q6 q7 q8 q9 q10 q11; clear q; have Ho4 := Lib.hid ho4; have Hw4 := Lib.hid (Hwz.out.trans (hb4.mono (by omega))); clear ho4 hb4 hg4)))
      all_goals
        go_wp2
        rw [Hr.out]
        refine bodyPost_ret (v := .tuple #[.agg #[.int .u8 (p.nm.x0 : Int), .int .u8 (p.nm.x1 : Int), .int .u8 (p.nm.x2 : Int), .int .u8 (p.nm.x3 : Int), .int .u8 (p.nm.x4 : Int), .int .u8 (p.nm.x5 : Int), .int .u8 (p.nm.x6 : Int), .int .u8 (p.nm.x7 : Int), .int .i64 (p.no + 1), .int .i64 p.h0, .int .i64 p.h1, .slice A4 n c4], .int .i64 0]) (by simp [results, Try.results75, go_sem, q0, q1, q2, q3, q4, q5, q6, q7, q8, q9, q10, q11]) rfl ⟨A4, n, c4, rfl, ?_, ?_⟩
        · refine pown_down (base := w1.heap.size) ?_ (by omega)
          repeat refine ownsRow_setCell_below ?_ (by show w.heap.size + 1 < _; omega) _
          have ho := Ho4.out
          rw [Nat.zero_add] at ho
          show w4.ownsRow w1.heap.size 60 11 (.slice A4 n c4) n (flatH p.held)
          simpa [flatH] using ho
        · repeat refine Below.setCell ?_ (by show w.heap.size ≤ w.heap.size + 1; omega) _
          exact Hw4.out
  · have b1 : (p.check != 0) = true := by simpa using hc
    have Hr := Lib.hid (nextP_check hc)
    have r := block_cell HR1.out
    have r0 := r 0; have r1 := r 1; have r2 := r 2; have r3 := r 3; have r4 := r 4; have r5 := r 5; have r6 := r 6; have r7 := r 7; have r8 := r 8; have r9 := r 9; have r10 := r 10; have r11 := r 11
    have rf := block_free HR1.out
    simp at r0 r1 r2 r3 r4 r5 r6 r7 r8 r9 r10 r11
    clear r
    clear hc
    go_wp2
    rw [Hr.out]
    refine bodyPost_ret (v := .tuple #[.agg #[.int .u8 0, .int .u8 0, .int .u8 0, .int .u8 0, .int .u8 0, .int .u8 0, .int .u8 0, .int .u8 0, .int .i64 0, .int .i64 0, .int .i64 0, .slice none 0 0], .int .i64 3]) (by simp [results, Try.results75, go_sem, r0, r1, r2, r3, r4, r5, r6, r7, r8, r9, r10, r11]) rfl (givesChR_no rfl ?_)
    repeat refine Below.setCell ?_ (by show w.heap.size ≤ w.heap.size + 1; omega) _
    exact Hw1.out
end Go.Proofs.Ytjiecnoplnaahaa
