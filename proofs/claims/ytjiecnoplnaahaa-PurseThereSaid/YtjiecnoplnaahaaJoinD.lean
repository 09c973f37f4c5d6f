/- The walk of the reference's next of a purse. Conditions: bounds. The walk of PurseKeeps. Conditions: bounds. -/
import Derived.Test.YtjiecnoplnaahaaPuV
import Derived.Test.YtjiecnoplnaahaaPuN
import Derived.Test.YtjiecnoplnaahaaPuT0
import Derived.Deep.RegionHeld3
import Derived.IntWalk
import Derived.Test.YtjiecnoplnaahaaPuQ0
import Derived.Deep.RegionLaw
import Derived.Deep.DeepCutAuto
namespace Go.Proofs.Ytjiecnoplnaahaa
open Go.RowKit Go.Lib


/-- A reference's deed's answer. -/
def GivesChR (r : Int × Pu) (w : World) (e : Ending) (w' : World) : Prop :=
  ∃ A n c, e = .returned (.tuple #[.agg #[.int .u8 (r.2.nm.x0 : Int), .int .u8 (r.2.nm.x1 : Int), .int .u8 (r.2.nm.x2 : Int), .int .u8 (r.2.nm.x3 : Int), .int .u8 (r.2.nm.x4 : Int), .int .u8 (r.2.nm.x5 : Int), .int .u8 (r.2.nm.x6 : Int), .int .u8 (r.2.nm.x7 : Int), .int .i64 r.2.no, .int .i64 r.2.h0, .int .i64 r.2.h1, .slice A n c], .int .i64 r.1]) ∧ w'.ownsRow w.heap.size 60 11 (.slice A n c) n (flatH r.2.held) ∧ Below w.heap.size w w'
theorem givesChR_no {r : Int × Pu} {w w' : World} {k : Int} (hr : r = (k, pu0)) (hb : Below w.heap.size w w') :
    GivesChR r w (.returned (.tuple #[.agg #[.int .u8 0, .int .u8 0, .int .u8 0, .int .u8 0, .int .u8 0, .int .u8 0, .int .u8 0, .int .u8 0, .int .i64 0, .int .i64 0, .int .i64 0, .slice none 0 0], .int .i64 k])) w' := by
  subst hr
  exact ⟨none, 0, 0, rfl, World.ownsRow_nil _ _ _ _, hb⟩
def Pu.nextP (p : Pu) : Int × Pu := if p.next = 0 then (0, p.more) else (p.next, pu0)
theorem nextP_check {p : Pu} (h : p.check ≠ 0) : p.nextP = (3, pu0) := by
  have : p.next = 3 := by unfold Pu.next; rw [if_neg h]
  unfold Pu.nextP; rw [this, if_neg (by decide)]
theorem nextP_spent {p : Pu} (h : p.check = 0) (h2 : p.no = 1099511627776) : p.nextP = (17, pu0) := by
  have : p.next = 17 := by unfold Pu.next; rw [if_pos h, if_pos h2]
  unfold Pu.nextP; rw [this, if_neg (by decide)]
theorem nextP_good {p : Pu} (h : p.check = 0) (h2 : p.no ≠ 1099511627776) : p.nextP = (0, p.more) := by
  unfold Pu.nextP; rw [if_pos (next_eq h h2)]
set_option maxRecDepth 100000 in
set_option maxHeartbeats 2000000 in
theorem nextr_any (p : Pu) (A : Option Addr) (n c : Nat) (w : World) (h : PuV.At p A n c w) :
    Calls Try.prog 75 #[.agg #[.int .u8 (p.nm.x0 : Int), .int .u8 (p.nm.x1 : Int), .int .u8 (p.nm.x2 : Int), .int .u8 (p.nm.x3 : Int), .int .u8 (p.nm.x4 : Int), .int .u8 (p.nm.x5 : Int), .int .u8 (p.nm.x6 : Int), .int .u8 (p.nm.x7 : Int), .int .i64 p.no, .int .i64 p.h0, .int .i64 p.h1, .slice A n c]] w (GivesChR p.nextP w) := by
  obtain ⟨i0, hi, hz0, hz1, hz2⟩ := info_parts info_HeldR
  have HI := Lib.hid (And.intro hi (And.intro hz0 (And.intro hz1 hz2))); clear hi hz0 hz1 hz2
  have HT : Hid (((w.alloc (.cells #[.int .u8 (p.nm.x0 : Int), .int .u8 (p.nm.x1 : Int), .int .u8 (p.nm.x2 : Int), .int .u8 (p.nm.x3 : Int), .int .u8 (p.nm.x4 : Int), .int .u8 (p.nm.x5 : Int), .int .u8 (p.nm.x6 : Int), .int .u8 (p.nm.x7 : Int), .int .i64 p.no, .int .i64 p.h0, .int .i64 p.h1, .slice A n c] 26)).alloc (.cells #[.int .u8 0, .int .u8 0, .int .u8 0, .int .u8 0, .int .u8 0, .int .u8 0, .int .u8 0, .int .u8 0, .int .i64 0, .int .i64 0, .int .i64 0, .slice none 0 0] 26)).heap[w.heap.size]? = some (.cells #[.int .u8 (p.nm.x0 : Int), .int .u8 (p.nm.x1 : Int), .int .u8 (p.nm.x2 : Int), .int .u8 (p.nm.x3 : Int), .int .u8 (p.nm.x4 : Int), .int .u8 (p.nm.x5 : Int), .int .u8 (p.nm.x6 : Int), .int .u8 (p.nm.x7 : Int), .int .i64 p.no, .int .i64 p.h0, .int .i64 p.h1, .slice A n c] 26 (0, 0))) := block_alloc (heap_alloc_new _ _) _
  have HR : Hid (((w.alloc (.cells #[.int .u8 (p.nm.x0 : Int), .int .u8 (p.nm.x1 : Int), .int .u8 (p.nm.x2 : Int), .int .u8 (p.nm.x3 : Int), .int .u8 (p.nm.x4 : Int), .int .u8 (p.nm.x5 : Int), .int .u8 (p.nm.x6 : Int), .int .u8 (p.nm.x7 : Int), .int .i64 p.no, .int .i64 p.h0, .int .i64 p.h1, .slice A n c] 26)).alloc (.cells #[.int .u8 0, .int .u8 0, .int .u8 0, .int .u8 0, .int .u8 0, .int .u8 0, .int .u8 0, .int .u8 0, .int .i64 0, .int .i64 0, .int .i64 0, .slice none 0 0] 26)).heap[w.heap.size + 1]? = some (.cells #[.int .u8 0, .int .u8 0, .int .u8 0, .int .u8 0, .int .u8 0, .int .u8 0, .int .u8 0, .int .u8 0, .int .i64 0, .int .i64 0, .int .i64 0, .slice none 0 0] 26 (0, 0))) := alloc_at (by simp)
  have Hw := Lib.hid (below_two w (.cells #[.int .u8 (p.nm.x0 : Int), .int .u8 (p.nm.x1 : Int), .int .u8 (p.nm.x2 : Int), .int .u8 (p.nm.x3 : Int), .int .u8 (p.nm.x4 : Int), .int .u8 (p.nm.x5 : Int), .int .u8 (p.nm.x6 : Int), .int .u8 (p.nm.x7 : Int), .int .i64 p.no, .int .i64 p.h0, .int .i64 p.h1, .slice A n c] 26) (.cells #[.int .u8 0, .int .u8 0, .int .u8 0, .int .u8 0, .int .u8 0, .int .u8 0, .int .u8 0, .int .u8 0, .int .i64 0, .int .i64 0, .int .i64 0, .slice none 0 0] 26))
  have Hz : Hid (((w.alloc (.cells #[.int .u8 (p.nm.x0 : Int), .int .u8 (p.nm.x1 : Int), .int .u8 (p.nm.x2 : Int), .int .u8 (p.nm.x3 : Int), .int .u8 (p.nm.x4 : Int), .int .u8 (p.nm.x5 : Int), .int .u8 (p.nm.x6 : Int), .int .u8 (p.nm.x7 : Int), .int .i64 p.no, .int .i64 p.h0, .int .i64 p.h1, .slice A n c] 26)).alloc (.cells #[.int .u8 0, .int .u8 0, .int .u8 0, .int .u8 0, .int .u8 0, .int .u8 0, .int .u8 0, .int .u8 0, .int .i64 0, .int .i64 0, .int .i64 0, .slice none 0 0] 26)).heap.size = w.heap.size + 2) := by show _ = _; simp
  have H := Lib.hid (h.up Hw.out)
  have hsm := h.small
  clear h
  go_enter Try.func75, Try.ntmps75
  go_wp2_with fail
  refine (checkr_any p A n c _ H.out).mono ?_
  generalize ((w.alloc (.cells #[.int .u8 (p.nm.x0 : Int), .int .u8 (p.nm.x1 : Int), .int .u8 (p.nm.x2 : Int), .int .u8 (p.nm.x3 : Int), .int .u8 (p.nm.x4 : Int), .int .u8 (p.nm.x5 : Int), .int .u8 (p.nm.x6 : Int), .int .u8 (p.nm.x7 : Int), .int .i64 p.no, .int .i64 p.h0, .int .i64 p.h1, .slice A n c] 26)).alloc (.cells #[.int .u8 0, .int .u8 0, .int .u8 0, .int .u8 0, .int .u8 0, .int .u8 0, .int .u8 0, .int .u8 0, .int .i64 0, .int .i64 0, .int .i64 0, .slice none 0 0] 26)) = w0 at *
  rintro e w1 ⟨rfl, hb1⟩
  have HT1 := Lib.hid (block_below HT.out hb1 (by rw [Hz.out]; omega))
  have HR1 := Lib.hid (block_below HR.out hb1 (by rw [Hz.out]; omega))
  have Hw1 := Lib.hid (Hw.out.trans (hb1.mono Hw.out.size))
  have H1 := Lib.hid (H.out.up hb1)
  have Hz1 : Hid (w.heap.size + 2 ≤ w1.heap.size) := by show _ ≤ _; have := hb1.size; have := Hz.out; omega
  clear hb1
  by_cases hc : p.check = 0
  · have b1 : (p.check != 0) = false := by simpa using hc
    have Hc := Lib.hid hc
    have hnn := (check_iff.1 hc).1
    obtain ⟨no0, no1⟩ := hnn
    clear hc
    obtain ⟨z0, z1, z2, z3, z4, z5, z6, z7, z8, z9, z10, z11⟩ := PBox.all HT1.out
    by_cases hs : p.no = 1099511627776
    · have b2 : (p.no == 1099511627776) = true := by simpa using hs
      have Hr := Lib.hid (nextP_spent Hc.out hs)
      have r := block_cell HR1.out
      have r0 := r 0; have r1 := r 1; have r2 := r 2; have r3 := r 3; have r4 := r 4; have r5 := r 5; have r6 := r 6; have r7 := r 7; have r8 := r 8; have r9 := r 9; have r10 := r 10; have r11 := r 11
      have rf := block_free HR1.out
      simp at r0 r1 r2 r3 r4 r5 r6 r7 r8 r9 r10 r11
      clear r
      clear hs
      go_wp2
      rw [Hr.out]
      refine bodyPost_ret (v := .tuple #[.agg #[.int .u8 0, .int .u8 0, .int .u8 0, .int .u8 0, .int .u8 0, .int .u8 0, .int .u8 0, .int .u8 0, .int .i64 0, .int .i64 0, .int .i64 0, .slice none 0 0], .int .i64 17]) (by simp [results, Try.results75, go_sem, r0, r1, r2, r3, r4, r5, r6, r7, r8, r9, r10, r11]) rfl (givesChR_no rfl ?_)
      repeat refine Below.setCell ?_ (by show w.heap.size ≤ w.heap.size + 1; omega) _
      exact Hw1.out
    · have b2 : (p.no == 1099511627776) = false := by simpa using hs
      have Hs := Lib.hid hs
      have Hr := Lib.hid (nextP_good Hc.out hs)
      clear hs
      have HO1 : Hid ((w1.drew.alloc (.cells #[] 60)).ownsRow w1.heap.size 60 11 (.slice (some ⟨w1.heap.size, 0, none⟩) 0 0) 0 (flatH [])) :=
        World.ownsRow_made (base := w1.heap.size) (e := 60) (size := 11) w1.drew #[] 0 (Nat.le_refl _) (by decide) rfl
      have HRd := Lib.hid (show Rd (w1.drew.alloc (.cells #[] 60)) w1.heap.size 11 A n (flatH p.held) from (H1.out.rd.drew).alloc (Nat.le_refl _) _)
      have HRz := Lib.hid (block_alloc (w := w1.drew) HR1.out (.cells #[] 60))
      have HTz := Lib.hid (block_alloc (w := w1.drew) HT1.out (.cells #[] 60))
      have Hwz := Lib.hid ((Hw1.out.drew).alloc (by exact Hw1.out.size) (.cells #[] 60))
      have hb2 : w.heap.size + 2 ≤ w1.heap.size := Hz1.out
      have hb3 : w.heap.size < w1.heap.size := by omega
      have hb5 : w.heap.size + 1 < w1.heap.size := by omega
      have hwrap : IntKind.i64.wrap (p.no + 1) = p.no + 1 := IntWalk.i64_in _ (by omega)
      go_wp2
      go_region_held3 (fun w' => w'.cell? ⟨w.heap.size, 0, none⟩ = some (.int .u8 (p.nm.x0 : Int)) ∧ w'.cell? ⟨w.heap.size, 1, none⟩ = some (.int .u8 (p.nm.x1 : Int)) ∧ w'.cell? ⟨w.heap.size, 2, none⟩ = some (.int .u8 (p.nm.x2 : Int)) ∧ w'.cell? ⟨w.heap.size, 3, none⟩ = some (.int .u8 (p.nm.x3 : Int)) ∧ w'.cell? ⟨w.heap.size, 4, none⟩ = some (.int .u8 (p.nm.x4 : Int)) ∧ w'.cell? ⟨w.heap.size, 5, none⟩ = some (.int .u8 (p.nm.x5 : Int)) ∧ w'.cell? ⟨w.heap.size, 6, none⟩ = some (.int .u8 (p.nm.x6 : Int)) ∧ w'.cell? ⟨w.heap.size, 7, none⟩ = some (.int .u8 (p.nm.x7 : Int)) ∧ w'.cell? ⟨w.heap.size, 8, none⟩ = some (.int .i64 p.no) ∧ w'.cell? ⟨w.heap.size, 9, none⟩ = some (.int .i64 p.h0) ∧ w'.cell? ⟨w.heap.size, 10, none⟩ = some (.int .i64 p.h1) ∧ w'.cell? ⟨w.heap.size, 11, none⟩ = some (.slice A n c))
        (first | with_reducible exact PBox.all HT4s.out | with_reducible exact PBox.all HT4.out | with_reducible exact PBox.all HTz.out | with_reducible exact PBox.all HT1.out | go_keep)
        ((refine step_append_rdg (w1.drew.alloc (.cells #[] 60)) (by rfl) _ _ 24 (by rfl) w1.heap.size 60 i0 (.agg #[.int .u8 0, .int .u8 0, .int .u8 0, .int .u8 0, .int .u8 0, .int .u8 0, .int .u8 0, .int .u8 0, .int .i64 0, .int .i64 0, .int .i64 0]) 11 32 Try.underlying24 HI.out rfl (by decide) _ _ _ (by rfl) HO1.out w1.heap.size A n c _ (by simp [Act.eval]) HRd.out (flatH_one _) (by omega) (by omega) (by simp) ?_; go_must (intro v4 w4 ho4 hb4 hg4; obtain ⟨A4, c4, rfl⟩ := own_form ho4; have HB4 := Lib.hid (block_below HRz.out hb4 (by omega)); have HT4 := Lib.hid (block_below HTz.out hb4 (by omega)); have HT4s := Lib.hid (((set12 HB4.out rfl ⟨p.nm, p.no + 1, p.h0, p.h1, p.held⟩ A4 (0 + n) c4).2.block w.heap.size (block_lt HT4.out) (by simp)).trans HT4.out); have q := block_cell HB4.out; have q0 := q 0; have q1 := q 1; have q2 := q 2; have q3 := q 3; have q4 := q 4; have q5 := q 5; have q6 := q 6; have q7 := q 7; have q8 := q 8; have q9 := q 9; have q10 := q 10; have q11 := q 11; have qf := block_free HB4.out; simp at q0 q1 q2 q3 q4 q5 q6 q7 q8 q9 q10 q11; clear q; have Ho4 := Lib.hid ho4; have Hw4 := Lib.hid (Hwz.out.trans (hb4.mono (by omega))); clear ho4 hb4 hg4)))
      all_goals
        go_wp2
        rw [Hr.out]
        refine bodyPost_ret (v := .tuple #[.agg #[.int .u8 (p.nm.x0 : Int), .int .u8 (p.nm.x1 : Int), .int .u8 (p.nm.x2 : Int), .int .u8 (p.nm.x3 : Int), .int .u8 (p.nm.x4 : Int), .int .u8 (p.nm.x5 : Int), .int .u8 (p.nm.x6 : Int), .int .u8 (p.nm.x7 : Int), .int .i64 (p.no + 1), .int .i64 p.h0, .int .i64 p.h1, .slice A4 n c4], .int .i64 0]) (by simp [results, Try.results75, go_sem, q0, q1, q2, q3, q4, q5, q6, q7, q8, q9, q10, q11]) rfl ⟨A4, n, c4, rfl, ?_, ?_⟩
        · refine pown_down (base := w1.heap.size) ?_ (by omega)
          repeat refine ownsRow_setCell_below ?_ (by show w.heap.size + 1 < _; omega) _
          have ho := Ho4.out
          rw [Nat.zero_add] at ho
          show w4.ownsRow w1.heap.size 60 11 (.slice A4 n c4) n (flatH p.held)
          simpa [flatH] using ho
        · repeat refine Below.setCell ?_ (by show w.heap.size ≤ w.heap.size + 1; omega) _
          exact Hw4.out
  · have b1 : (p.check != 0) = true := by simpa using hc
    have Hr := Lib.hid (nextP_check hc)
    have r := block_cell HR1.out
    have r0 := r 0; have r1 := r 1; have r2 := r 2; have r3 := r 3; have r4 := r 4; have r5 := r 5; have r6 := r 6; have r7 := r 7; have r8 := r 8; have r9 := r 9; have r10 := r 10; have r11 := r 11
    have rf := block_free HR1.out
    simp at r0 r1 r2 r3 r4 r5 r6 r7 r8 r9 r10 r11
    clear r
    clear hc
    go_wp2
    rw [Hr.out]
    refine bodyPost_ret (v := .tuple #[.agg #[.int .u8 0, .int .u8 0, .int .u8 0, .int .u8 0, .int .u8 0, .int .u8 0, .int .u8 0, .int .u8 0, .int .i64 0, .int .i64 0, .int .i64 0, .slice none 0 0], .int .i64 3]) (by simp [results, Try.results75, go_sem, r0, r1, r2, r3, r4, r5, r6, r7, r8, r9, r10, r11]) rfl (givesChR_no rfl ?_)
    repeat refine Below.setCell ?_ (by show w.heap.size ≤ w.heap.size + 1; omega) _
    exact Hw1.out
end Go.Proofs.Ytjiecnoplnaahaa
namespace Go.Proofs.Ytjiecnoplnaahaa
open Go.RowKit Go.Lib


theorem zero_after {wr w4 : World} (hb : Below (wr.alloc (.cells #[.int .u8 0, .int .u8 0, .int .u8 0, .int .u8 0, .int .u8 0, .int .u8 0, .int .u8 0, .int .u8 0, .int .i64 0, .int .i64 0, .int .i64 0, .slice none 0 0] 32)).drew.heap.size (wr.alloc (.cells #[.int .u8 0, .int .u8 0, .int .u8 0, .int .u8 0, .int .u8 0, .int .u8 0, .int .u8 0, .int .u8 0, .int .i64 0, .int .i64 0, .int .i64 0, .slice none 0 0] 32)).drew w4) : w4.heap[wr.heap.size]? = some (.cells #[.int .u8 0, .int .u8 0, .int .u8 0, .int .u8 0, .int .u8 0, .int .u8 0, .int .u8 0, .int .u8 0, .int .i64 0, .int .i64 0, .int .i64 0, .slice none 0 0] 32 (0, 0)) :=
  block_below (w := (wr.alloc (.cells #[.int .u8 0, .int .u8 0, .int .u8 0, .int .u8 0, .int .u8 0, .int .u8 0, .int .u8 0, .int .u8 0, .int .i64 0, .int .i64 0, .int .i64 0, .slice none 0 0] 32)).drew) (heap_alloc_new wr (.cells #[.int .u8 0, .int .u8 0, .int .u8 0, .int .u8 0, .int .u8 0, .int .u8 0, .int .u8 0, .int .u8 0, .int .i64 0, .int .i64 0, .int .i64 0, .slice none 0 0] 32)) hb (by simp)
theorem below_a {wr w4 : World} (hb : Below wr.drew.heap.size wr.drew w4) : Below wr.heap.size wr w4 := ((Below.refl wr.heap.size wr).drew).trans hb
theorem below_b {wr w4 : World} {Z : Obj} (hb : Below (wr.alloc Z).drew.heap.size (wr.alloc Z).drew w4) : Below wr.heap.size wr w4 := (((Below.refl wr.heap.size wr).alloc (Nat.le_refl _) Z).drew).trans (hb.mono (by simp))
theorem below_set12 {B g : Nat} {a w : World} (h : Below B a w) (hg : B ≤ g) {p : Pu} {A : Option Addr} {n c : Nat} : Below B a ((((((((((((w.setCell ⟨g, 0, none⟩ (.int .u8 (p.nm.x0 : Int))).setCell ⟨g, 1, none⟩ (.int .u8 (p.nm.x1 : Int))).setCell ⟨g, 2, none⟩ (.int .u8 (p.nm.x2 : Int))).setCell ⟨g, 3, none⟩ (.int .u8 (p.nm.x3 : Int))).setCell ⟨g, 4, none⟩ (.int .u8 (p.nm.x4 : Int))).setCell ⟨g, 5, none⟩ (.int .u8 (p.nm.x5 : Int))).setCell ⟨g, 6, none⟩ (.int .u8 (p.nm.x6 : Int))).setCell ⟨g, 7, none⟩ (.int .u8 (p.nm.x7 : Int))).setCell ⟨g, 8, none⟩ (.int .i64 p.no)).setCell ⟨g, 9, none⟩ (.int .i64 p.h0)).setCell ⟨g, 10, none⟩ (.int .i64 p.h1)).setCell ⟨g, 11, none⟩ (.slice A n c)) := by
  iterate 12 refine Below.setCell ?_ (by exact hg) _
  exact h
theorem at_own {w : World} {base : Nat} {p : Pu} {A : Option Addr} {n c : Nat} (ho : w.ownsRow base 56 11 (.slice A n c) n (flatH p.held)) (hl : p.held.length ≤ 1000000) : PuV.At p A n c w := by
  obtain ⟨h1, h2⟩ := ownsRow_cap ho
  exact ⟨Rd.of_own ho, h1, by omega⟩
theorem chAt {r : Int × Pu} {w : World} {e : Ending} {w' : World} (h : GivesCh r w e w') (hl : r.2.held.length ≤ 1000000) : GivesAt r.2 r.1 w e w' := givesAt h rfl hl
set_option maxRecDepth 100000 in
set_option maxHeartbeats 4000000 in
theorem purseKeeps_any (p : Pu) (A : Option Addr) (n c : Nat) (L : Option Addr) (m cl : Nat) (ds : List Dd) (w : World) (hr : Rd w w.heap.size 11 A n (flatH p.held)) (hcap : n ≤ c) (hd : Rd w w.heap.size 12 L m (flatD ds)) (hds : ∀ k, k < ds.length → (ds.getD k default).w < 256) :
    Calls Try.prog 5 #[.agg #[.int .u8 (p.nm.x0 : Int), .int .u8 (p.nm.x1 : Int), .int .u8 (p.nm.x2 : Int), .int .u8 (p.nm.x3 : Int), .int .u8 (p.nm.x4 : Int), .int .u8 (p.nm.x5 : Int), .int .u8 (p.nm.x6 : Int), .int .u8 (p.nm.x7 : Int), .int .i64 p.no, .int .i64 p.h0, .int .i64 p.h1, .slice A n c], .slice L m cl] w fun e w' => e = .returned (.bool true) ∧ Below w.heap.size w w' := by
  by_cases h40 : 40 < n
  · have b1 : decide (40 < n) = true := decide_eq_true h40
    clear hr hcap hd hds h40
    go_enter Try.func5, Try.ntmps5
    go_wp2_with (first | (go_at_call 11; refine (great_any p A n c _).mono ?_; rintro e w1 ⟨rfl, hb1⟩; have Hb1 := Lib.hid ((below_one w _).trans (hb1.mono (by simp))); clear hb1) | (go_at_call 12; refine (told_any _).mono ?_; rintro e w2 ⟨rfl, hb2⟩; have Hb2 := Lib.hid (Hb1.out.trans (hb2.mono Hb1.out.size)); clear hb2))
    go_ret
    exact ⟨rfl, Hb2.out⟩
  have b1 : decide (40 < n) = false := decide_eq_false h40
  have h : PuV.At p A n c w := ⟨hr, hcap, by omega⟩
  by_cases hm : 40 < m
  · have b2 : decide ((40 : Int) < (m : Int)) = true := decide_eq_true (by omega)
    clear h hr hcap hd hds h40 hm
    go_enter Try.func5, Try.ntmps5
    go_wp2_with (first | (go_at_call 11; refine (great_any p A n c _).mono ?_; rintro e w1 ⟨rfl, hb1⟩; have Hb1 := Lib.hid ((below_one w _).trans (hb1.mono (by simp))); clear hb1) | (go_at_call 12; refine (told_any _).mono ?_; rintro e w2 ⟨rfl, hb2⟩; have Hb2 := Lib.hid (Hb1.out.trans (hb2.mono Hb1.out.size)); clear hb2))
    go_ret
    exact ⟨rfl, Hb2.out⟩
  have b2 : decide ((40 : Int) < (m : Int)) = false := decide_eq_false (by omega)
  have HX := Lib.hid (heap_alloc_new w (.cells #[.int .u8 (p.nm.x0 : Int), .int .u8 (p.nm.x1 : Int), .int .u8 (p.nm.x2 : Int), .int .u8 (p.nm.x3 : Int), .int .u8 (p.nm.x4 : Int), .int .u8 (p.nm.x5 : Int), .int .u8 (p.nm.x6 : Int), .int .u8 (p.nm.x7 : Int), .int .i64 p.no, .int .i64 p.h0, .int .i64 p.h1, .slice A n c] 26))
  have HA := Lib.hid (h.up (below_one w (.cells #[.int .u8 (p.nm.x0 : Int), .int .u8 (p.nm.x1 : Int), .int .u8 (p.nm.x2 : Int), .int .u8 (p.nm.x3 : Int), .int .u8 (p.nm.x4 : Int), .int .u8 (p.nm.x5 : Int), .int .u8 (p.nm.x6 : Int), .int .u8 (p.nm.x7 : Int), .int .i64 p.no, .int .i64 p.h0, .int .i64 p.h1, .slice A n c] 26)))
  have Hl := Lib.hid h.rd.hlen
  have HD := Lib.hid hd
  have Hdl := Lib.hid hd.dlen
  have Hds := Lib.hid hds
  clear h hd hds hr hcap
  go_enter Try.func5, Try.ntmps5
  go_wp2_with (go_at_call 11; refine (great_any p A n c _).mono ?_; rintro e w1 ⟨rfl, hb1⟩; have HX1 := Lib.hid (block_below HX.out hb1 (by simp)); have HA1 := Lib.hid (HA.out.up hb1); have Hb1 := Lib.hid ((below_one w _).trans (hb1.mono (by simp))); clear hb1; obtain ⟨z0, z1, z2, z3, z4, z5, z6, z7, z8, z9, z10, z11⟩ := PBox.all HX1.out)
  refine (own_any p A n c w1 HA1.out).mono ?_
  rintro e w2 ⟨A2, n2, c2, rfl, ho2, hb2⟩
  have hpl : p.held.length ≤ 1000000 := by have := Hl.out; omega
  have HO2 := Lib.hid ((pown_down ho2 Hb1.out.size).alloc (.cells #[.int .u8 (p.nm.x0 : Int), .int .u8 (p.nm.x1 : Int), .int .u8 (p.nm.x2 : Int), .int .u8 (p.nm.x3 : Int), .int .u8 (p.nm.x4 : Int), .int .u8 (p.nm.x5 : Int), .int .u8 (p.nm.x6 : Int), .int .u8 (p.nm.x7 : Int), .int .i64 p.no, .int .i64 p.h0, .int .i64 p.h1, .slice A2 n2 c2] 32))
  have ha2 := at_own ho2 hpl
  clear z0 z1 z2 z3 z4 z5 z6 z7 z8 z9 z10 z11
  have HA2 := Lib.hid (ha2.up (below_one w2 (.cells #[.int .u8 (p.nm.x0 : Int), .int .u8 (p.nm.x1 : Int), .int .u8 (p.nm.x2 : Int), .int .u8 (p.nm.x3 : Int), .int .u8 (p.nm.x4 : Int), .int .u8 (p.nm.x5 : Int), .int .u8 (p.nm.x6 : Int), .int .u8 (p.nm.x7 : Int), .int .i64 p.no, .int .i64 p.h0, .int .i64 p.h1, .slice A2 n2 c2] 32)))
  have HX2 := Lib.hid (heap_alloc_new w2 (.cells #[.int .u8 (p.nm.x0 : Int), .int .u8 (p.nm.x1 : Int), .int .u8 (p.nm.x2 : Int), .int .u8 (p.nm.x3 : Int), .int .u8 (p.nm.x4 : Int), .int .u8 (p.nm.x5 : Int), .int .u8 (p.nm.x6 : Int), .int .u8 (p.nm.x7 : Int), .int .i64 p.no, .int .i64 p.h0, .int .i64 p.h1, .slice A2 n2 c2] 32))
  have Hb2 := Lib.hid ((Hb1.out.trans (hb2.mono Hb1.out.size)).alloc (Nat.le_trans Hb1.out.size hb2.size) (.cells #[.int .u8 (p.nm.x0 : Int), .int .u8 (p.nm.x1 : Int), .int .u8 (p.nm.x2 : Int), .int .u8 (p.nm.x3 : Int), .int .u8 (p.nm.x4 : Int), .int .u8 (p.nm.x5 : Int), .int .u8 (p.nm.x6 : Int), .int .u8 (p.nm.x7 : Int), .int .i64 p.no, .int .i64 p.h0, .int .i64 p.h1, .slice A2 n2 c2] 32))
  have Hg : Hid (w.heap.size ≤ w2.heap.size) := Nat.le_trans Hb1.out.size hb2.size
  clear ha2 hb2 ho2
  go_wp2_with fail
  refine (total_any p A2 n2 c2 _ HA2.out).mono ?_
  rintro e w3 ⟨rfl, hb3⟩
  have HO3 := Lib.hid (own_below HO2.out hb3)
  have HX3 := Lib.hid (block_below HX2.out hb3 (by simp))
  have Hb3 := Lib.hid (Hb2.out.trans (hb3.mono Hb2.out.size))
  clear hb3
  generalize w2.heap.size = gx at *
  go_wp2
  go_loopw [7] (fun i wr => ∃ (k : Nat) (q : Pu) (A' : Option Addr) (n' c' : Nat), k ≤ m ∧ i = .int .i64 (k : Int) ∧ wr.heap[gx]? = some (.cells #[.int .u8 (q.nm.x0 : Int), .int .u8 (q.nm.x1 : Int), .int .u8 (q.nm.x2 : Int), .int .u8 (q.nm.x3 : Int), .int .u8 (q.nm.x4 : Int), .int .u8 (q.nm.x5 : Int), .int .u8 (q.nm.x6 : Int), .int .u8 (q.nm.x7 : Int), .int .i64 q.no, .int .i64 q.h0, .int .i64 q.h1, .slice A' n' c'] 32 (0, 0)) ∧ wr.ownsRow w.heap.size 56 11 (.slice A' n' c') n' (flatH q.held) ∧ q.held.length ≤ 1000000 ∧ q.total = p.total ∧ Below w.heap.size w wr) (fun i _ => m - (intOf i).toNat)
  case atStart => exact ⟨0, p, A2, n2, c2, Nat.zero_le _, rfl, HX3.out, HO3.out, hpl, rfl, Hb3.out⟩
  case round =>
    obtain ⟨k, q, A', n', c', hk, rfl, hx, ho, hql, ht, hbel⟩ := hrel
    have ha := at_own ho hql
    have HOr := Lib.hid ho
    clear ho
    have HXr := Lib.hid hx; have HAr := Lib.hid ha; have Ht := Lib.hid ht; have Hbel := Lib.hid hbel
    have hgx := block_lt hx
    clear hx ha ht
    by_cases hlt : k < m
    · obtain ⟨b, o, rfl, hbB, hdc⟩ := (HD.out.up hbel (Nat.le_refl _)).dd hlt
      have hd1 : decide ((k : Int) < (m : Int)) = true := decide_eq_true (by omega)
      have hki : (k : Int) < (m : Int) := by omega
      have hdw := Hds.out k (by have := Hdl.out; omega)
      generalize ds.getD k default = d at *
      have HS := Lib.hid (And.intro (PBox.all HXr.out) hdc)
      have HSd := HS.out
      obtain ⟨⟨z0, z1, z2, z3, z4, z5, z6, z7, z8, z9, z10, z11⟩, y0, y1, y2, y3, y4, y5, y6, y7, y8, y9, y10, y11⟩ := HSd
      clear hdc hbel
      go_upto_region 8 with fail
      go_cut [8, 9] (fun s8 s9 wx => ∃ (g : Nat) (A4 : Option Addr) (n4 c4 : Nat), s8 = .pointer (some ⟨g, 0, none⟩) ∧ s9 = .int .i64 (q.deed d).1 ∧ wx.heap[g]? = some (.cells #[.int .u8 ((q.deed d).2.nm.x0 : Int), .int .u8 ((q.deed d).2.nm.x1 : Int), .int .u8 ((q.deed d).2.nm.x2 : Int), .int .u8 ((q.deed d).2.nm.x3 : Int), .int .u8 ((q.deed d).2.nm.x4 : Int), .int .u8 ((q.deed d).2.nm.x5 : Int), .int .u8 ((q.deed d).2.nm.x6 : Int), .int .u8 ((q.deed d).2.nm.x7 : Int), .int .i64 (q.deed d).2.no, .int .i64 (q.deed d).2.h0, .int .i64 (q.deed d).2.h1, .slice A4 n4 c4] 32 (0, 0)) ∧ wx.ownsRow wr.heap.size 56 11 (.slice A4 n4 c4) n4 (flatH (q.deed d).2.held) ∧ Below wr.heap.size wr wx ∧ wr.heap.size ≤ g)
      case first =>
        have HAa := Lib.hid HAr.out.drew
        have HAb := Lib.hid (HAr.out.up (below_one wr (.cells #[.int .u8 0, .int .u8 0, .int .u8 0, .int .u8 0, .int .u8 0, .int .u8 0, .int .u8 0, .int .u8 0, .int .i64 0, .int .i64 0, .int .i64 0, .slice none 0 0] 32))).drew
        go_region_held3 (fun w' => (w'.cell? ⟨gx, 0, none⟩ = some (.int .u8 (q.nm.x0 : Int)) ∧ w'.cell? ⟨gx, 1, none⟩ = some (.int .u8 (q.nm.x1 : Int)) ∧ w'.cell? ⟨gx, 2, none⟩ = some (.int .u8 (q.nm.x2 : Int)) ∧ w'.cell? ⟨gx, 3, none⟩ = some (.int .u8 (q.nm.x3 : Int)) ∧ w'.cell? ⟨gx, 4, none⟩ = some (.int .u8 (q.nm.x4 : Int)) ∧ w'.cell? ⟨gx, 5, none⟩ = some (.int .u8 (q.nm.x5 : Int)) ∧ w'.cell? ⟨gx, 6, none⟩ = some (.int .u8 (q.nm.x6 : Int)) ∧ w'.cell? ⟨gx, 7, none⟩ = some (.int .u8 (q.nm.x7 : Int)) ∧ w'.cell? ⟨gx, 8, none⟩ = some (.int .i64 q.no) ∧ w'.cell? ⟨gx, 9, none⟩ = some (.int .i64 q.h0) ∧ w'.cell? ⟨gx, 10, none⟩ = some (.int .i64 q.h1) ∧ w'.cell? ⟨gx, 11, none⟩ = some (.slice A' n' c')) ∧ (w'.cell? ⟨b, (o + k * 12), none⟩ = some (.int .u8 (d.w : Int)) ∧ w'.cell? ⟨b, (o + k * 12) + 1, none⟩ = some (.int .u8 (d.nm.x0 : Int)) ∧ w'.cell? ⟨b, (o + k * 12) + 2, none⟩ = some (.int .u8 (d.nm.x1 : Int)) ∧ w'.cell? ⟨b, (o + k * 12) + 3, none⟩ = some (.int .u8 (d.nm.x2 : Int)) ∧ w'.cell? ⟨b, (o + k * 12) + 4, none⟩ = some (.int .u8 (d.nm.x3 : Int)) ∧ w'.cell? ⟨b, (o + k * 12) + 5, none⟩ = some (.int .u8 (d.nm.x4 : Int)) ∧ w'.cell? ⟨b, (o + k * 12) + 6, none⟩ = some (.int .u8 (d.nm.x5 : Int)) ∧ w'.cell? ⟨b, (o + k * 12) + 7, none⟩ = some (.int .u8 (d.nm.x6 : Int)) ∧ w'.cell? ⟨b, (o + k * 12) + 8, none⟩ = some (.int .u8 (d.nm.x7 : Int)) ∧ w'.cell? ⟨b, (o + k * 12) + 9, none⟩ = some (.int .i64 d.am) ∧ w'.cell? ⟨b, (o + k * 12) + 10, none⟩ = some (.int .i64 d.fr) ∧ w'.cell? ⟨b, (o + k * 12) + 11, none⟩ = some (.int .i64 d.un)))
          (((with_reducible refine pd_below ?_ hgx hbB HS.out); (first
            | with_reducible exact (Below.refl wr.heap.size wr).drew
            | with_reducible exact ((Below.refl wr.heap.size wr).alloc (Nat.le_refl _) _).drew
            | with_reducible exact HB4.out
            | with_reducible exact HB4.out.alloc HB4.out.size _
            | with_reducible exact below_set12 HB4.out (Nat.le_refl wr.heap.size))))
          ((go_at_call 16; go_must (refine (do_any q A' n' c' d _ (by first | with_reducible exact HAa.out | with_reducible exact HAb.out) hdw).mono ?_; rintro e w4 ⟨A4, n4, c4, rfl, ho4, hb4⟩; have HB4 := Lib.hid (show Below wr.heap.size wr w4 from (by first | with_reducible exact below_a hb4 | with_reducible exact below_b hb4)); have HO4 := Lib.hid ho4; (first | (have HZ4 := Lib.hid (by with_reducible exact zero_after hb4); obtain ⟨v0, v1, v2, v3, v4, v5, v6, v7, v8, v9, v10, v11⟩ := PBox.all (p := pu0) HZ4.out; have vf := block_free HZ4.out; have vl := block_lt HZ4.out) | skip); clear hb4 ho4)))
        all_goals
          go_wp2_with fail
          try go_meet
          first
            | (obtain ⟨s1, s2⟩ := set12 HZ4.out rfl (q.deed d).2 A4 n4 c4
               exact ⟨wr.heap.size, A4, n4, c4, rfl, rfl, s1, pown_down (HO4.out.kept s2 (.inr fun e => own_ne HO4.out HZ4.out (by decide) e.symm)) (by simp), HB4.out.grown s2 HB4.out.size (fun k hk => by cases hk; exact Nat.le_refl _), Nat.le_refl _⟩)
            | exact ⟨w4.heap.size, A4, n4, c4, rfl, rfl, heap_alloc_new _ _, pown_down (HO4.out.alloc _) (by simp), HB4.out.alloc HB4.out.size _, HB4.out.size⟩
      case rest =>
        obtain ⟨g, A4, n4, c4, rfl, rfl, hY, ho4, hW4, hg⟩ := hcut
        have Hlen := Lib.hid (deed_len (p := q) (d := d))
        have Hkept := Lib.hid (deed_kept (p := q) (d := d))
        have Hno := Lib.hid (deed_no (p := q) (d := d))
        generalize q.deed d = rr at *
        obtain ⟨code, r⟩ := rr
        simp only at *
        have HXc := Lib.hid (block_below HXr.out hW4 hgx)
        have HOc := Lib.hid (own_below HOr.out (hW4.mono (Nat.le_refl _)))
        have Hbc := Lib.hid (Hbel.out.trans (hW4.mono Hbel.out.size))
        have HYc := Lib.hid hY
        have HO4 := Lib.hid (pown_down ho4 Hbel.out.size)
        have HA4 := Lib.hid (at_own ho4 Hlen.out)
        have hne : gx ≠ g := by omega
        have hne2 : g ≠ gx := by omega
        have hgl := block_lt hY
        have hgxc := block_lt HXc.out
        have Hs4 := Lib.hid hW4.size
        clear hY ho4 hW4 z0 z1 z2 z3 z4 z5 z6 z7 z8 z9 z10 z11 y0 y1 y2 y3 y4 y5 y6 y7 y8 y9 y10 y11
        obtain ⟨z0, z1, z2, z3, z4, z5, z6, z7, z8, z9, z10, z11⟩ := PBox.all HYc.out
        by_cases hcode : code = 0
        · have b3 : (code != 0) = false := by simpa using hcode
          have hK := Hkept.out hcode
          have hck := check_iff.1 hK.was
          obtain ⟨⟨no0, no1⟩, _⟩ := hck
          have e1 : (r.total != p.total) = false := by rw [kept_total hK, Ht.out]; simp
          have e2 : (r.no != q.no + 1) = false := by rw [hK.no]; simp
          have e3 : (r.check != 0) = false := by rw [hK.fits]; rfl
          have e4 : eqI [(r.nm.x0 : Int), (r.nm.x1 : Int), (r.nm.x2 : Int), (r.nm.x3 : Int), (r.nm.x4 : Int), (r.nm.x5 : Int), (r.nm.x6 : Int), (r.nm.x7 : Int)] [(q.nm.x0 : Int), (q.nm.x1 : Int), (q.nm.x2 : Int), (q.nm.x3 : Int), (q.nm.x4 : Int), (q.nm.x5 : Int), (q.nm.x6 : Int), (q.nm.x7 : Int)] = true := eqI_iff8.2 hK.nm
          have Htot := Lib.hid (kept_total hK)
          have heq := neq_dig
          clear hcode hK
          go_wp2_with fail
          refine (total_any r A4 n4 c4 wc HA4.out).mono ?_
          rintro e w5 ⟨rfl, hb5⟩
          clear z0 z1 z2 z3 z4 z5 z6 z7 z8 z9 z10 z11
          have HY5 := Lib.hid (block_below HYc.out hb5 hgl)
          have HX5 := Lib.hid (block_below HXc.out hb5 hgxc)
          have HA5 := Lib.hid (HA4.out.up hb5)
          have HO5 := Lib.hid (own_below HO4.out hb5)
          have Hb5 := Lib.hid (Hbc.out.trans (hb5.mono Hbc.out.size))
          obtain ⟨z0, z1, z2, z3, z4, z5, z6, z7, z8, z9, z10, z11⟩ := PBox.all HY5.out
          obtain ⟨x0, x1, x2, x3, x4, x5, x6, x7, x8, x9, x10, x11⟩ := PBox.all HX5.out
          have hgl5 := block_lt HY5.out
          have hgx5 := block_lt HX5.out
          clear hb5
          go_wp2_with fail
          refine (pcheck_any r A4 n4 c4 w5 HA5.out).mono ?_
          rintro e w6 ⟨rfl, hb6⟩
          clear z0 z1 z2 z3 z4 z5 z6 z7 z8 z9 z10 z11 x0 x1 x2 x3 x4 x5 x6 x7 x8 x9 x10 x11
          have HY6 := Lib.hid (block_below HY5.out hb6 hgl5)
          have HX6 := Lib.hid (block_below HX5.out hb6 hgx5)
          have HO6 := Lib.hid (own_below HO5.out hb6)
          have Hb6 := Lib.hid (Hb5.out.trans (hb6.mono Hb5.out.size))
          obtain ⟨z0, z1, z2, z3, z4, z5, z6, z7, z8, z9, z10, z11⟩ := PBox.all HY6.out
          obtain ⟨x0, x1, x2, x3, x4, x5, x6, x7, x8, x9, x10, x11⟩ := PBox.all HX6.out
          have xf := block_free HX6.out
          clear hb6
          go_wp2
          obtain ⟨s1, s2⟩ := set12 HX6.out rfl r A4 n4 c4
          have S1 := Lib.hid s1; have S2 := Lib.hid s2
          clear s1 s2
          go_roundw
          case rel =>
            exact ⟨k + 1, r, A4, n4, c4, by omega, by go_num, S1.out, HO6.out.kept S2.out (.inr fun e => own_ne HO6.out HX6.out (by decide) e.symm), Hlen.out, Htot.out.trans Ht.out, Hb6.out.grown S2.out Hb6.out.size (fun j hj => by cases hj; exact Hg.out)⟩
          case measure => simp [intOf]; omega
        · have b3 : (code != 0) = true := by simpa using hcode
          have hr0 : r = pu0 := Hno.out hcode
          have e1 : r.same pu0 = true := by rw [hr0]; exact same_refl _
          clear hr0 hcode
          go_wp2_with fail
          refine (psame_any r pu0 A4 none n4 c4 0 0 wc HA4.out ⟨by simpa [flatH, pu0] using Rd.empty, by omega, by omega⟩).mono ?_
          rintro e w5 ⟨rfl, hb5⟩
          have HX5 := Lib.hid (block_below HXc.out hb5 hgxc)
          have HO5 := Lib.hid (own_below HOc.out hb5)
          have Hb5 := Lib.hid (Hbc.out.trans (hb5.mono Hbc.out.size))
          clear hb5
          go_wp2
          go_roundw
          case rel => exact ⟨k + 1, q, _, n', c', by omega, by go_num, HX5.out, HO5.out, hql, Ht.out, Hb5.out⟩
          case measure => simp [intOf]; omega
    · have hkn : k = m := by omega
      subst hkn
      have hd1 : decide ((k : Int) < (k : Int)) = false := decide_eq_false (by omega)
      clear hlt hbel
      go_wp2_with (go_at_call 12; refine (told_any _).mono ?_; rintro e w5 ⟨rfl, hb5⟩; have Hb5 := Lib.hid (Hbel.out.trans (hb5.mono Hbel.out.size)); clear hb5)
      go_ret
      exact ⟨rfl, Hb5.out⟩
end Go.Proofs.Ytjiecnoplnaahaa
