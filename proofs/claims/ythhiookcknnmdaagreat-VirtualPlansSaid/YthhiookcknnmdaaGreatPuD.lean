/- The walks of a purse's Total and Pays. Conditions: bounds. -/
import Derived.Test.YthhiookcknnmdaaGreatPuC
import Derived.RegionTactic
import Derived.ChangeAlike
import Derived.Lib.SmallJoins
namespace Go.Proofs.YthhiookcknnmdaaGreat
open Go.RowKit Go.Lib


theorem check_ok {p : Pu} (h : p.check = 0) : (0 ≤ p.no ∧ p.no ≤ 1099511627776) ∧ (0 ≤ p.h0 ∧ p.h0 ≤ 1125899906842624) ∧ (0 ≤ p.h1 ∧ p.h1 ≤ 1125899906842624) ∧ p.held.length ≤ 16 ∧ checkL p.held = 0 ∧ (0 ≤ p.sum ∧ p.sum ≤ 1125899906842624) := by
 unfold Pu.check at h
 split at h
 ·rename_i h1
  simp only [Bool.and_eq_true, far_iff, rgt_iff] at h1
  split at h
  ·simp at h
  ·split at h
   ·split at h
    ·rename_i h2 h3 h4
     exact ⟨h1.1.1, h1.1.2, h1.2, by omega, h3, rgt_iff.1 h4⟩
    ·simp at h
   ·rename_i h2 h3; exact absurd h h3
 ·simp at h
theorem held_ok {l : List Hd} (h : checkL l = 0) (j : Nat) (hj : j < l.length) : (l.getD j default).ok ∧ twiceB l j = false := codeAt_ok.1 (checkL_all h j hj)
theorem held_am {l : List Hd} (h : checkL l = 0) (j : Nat) (hj : j < l.length) : 0 ≤ (l.getD j default).am ∧ (l.getD j default).am ≤ 1125899906842624 := by
 have := (held_ok h j hj).1.1; omega
theorem PBox.all {p : Pu} {A : Option Addr} {n c : Nat} {w : World} {b : Nat} {T : TypeId} (h : w.heap[b]? = some (.cells #[.int .u8 p.nm.x0, .int .u8 p.nm.x1, .int .u8 p.nm.x2, .int .u8 p.nm.x3, .int .u8 p.nm.x4, .int .u8 p.nm.x5, .int .u8 p.nm.x6, .int .u8 p.nm.x7, .int .i64 p.no, .int .i64 p.h0, .int .i64 p.h1, .slice A n c] T (0, 0))) :
  w.cell? ⟨b, 0, none⟩ = some (.int .u8 p.nm.x0) ∧ w.cell? ⟨b, 1, none⟩ = some (.int .u8 p.nm.x1) ∧ w.cell? ⟨b, 2, none⟩ = some (.int .u8 p.nm.x2) ∧ w.cell? ⟨b, 3, none⟩ = some (.int .u8 p.nm.x3) ∧
  w.cell? ⟨b, 4, none⟩ = some (.int .u8 p.nm.x4) ∧ w.cell? ⟨b, 5, none⟩ = some (.int .u8 p.nm.x5) ∧ w.cell? ⟨b, 6, none⟩ = some (.int .u8 p.nm.x6) ∧ w.cell? ⟨b, 7, none⟩ = some (.int .u8 p.nm.x7) ∧
  w.cell? ⟨b, 8, none⟩ = some (.int .i64 p.no) ∧ w.cell? ⟨b, 9, none⟩ = some (.int .i64 p.h0) ∧ w.cell? ⟨b, 10, none⟩ = some (.int .i64 p.h1) ∧ w.cell? ⟨b, 11, none⟩ = some (.slice A n c) :=
 ⟨block_cell h 0, block_cell h 1, block_cell h 2, block_cell h 3, block_cell h 4, block_cell h 5, block_cell h 6, block_cell h 7, block_cell h 8, block_cell h 9, block_cell h 10, block_cell h 11⟩
set_option maxRecDepth 100000 in
set_option maxHeartbeats 1000000 in
theorem total_any (p : Pu) (A : Option Addr) (n c : Nat) (w : World) (h : PuV.At p A n c w) :
  Calls Tryz.prog 40 #[.agg #[.int .u8 p.nm.x0, .int .u8 p.nm.x1, .int .u8 p.nm.x2, .int .u8 p.nm.x3, .int .u8 p.nm.x4, .int .u8 p.nm.x5, .int .u8 p.nm.x6, .int .u8 p.nm.x7, .int .i64 p.no, .int .i64 p.h0, .int .i64 p.h1, .slice A n c]] w fun e w' => e = .returned (.int .i64 p.total) ∧ Below w.heap.size w w' := by
 have H := Lib.hid (h.up (below_one w (.cells #[.int .u8 p.nm.x0, .int .u8 p.nm.x1, .int .u8 p.nm.x2, .int .u8 p.nm.x3, .int .u8 p.nm.x4, .int .u8 p.nm.x5, .int .u8 p.nm.x6, .int .u8 p.nm.x7, .int .i64 p.no, .int .i64 p.h0, .int .i64 p.h1, .slice A n c] 85)))
 have HT := Lib.hid (heap_alloc_new w (.cells #[.int .u8 p.nm.x0, .int .u8 p.nm.x1, .int .u8 p.nm.x2, .int .u8 p.nm.x3, .int .u8 p.nm.x4, .int .u8 p.nm.x5, .int .u8 p.nm.x6, .int .u8 p.nm.x7, .int .i64 p.no, .int .i64 p.h0, .int .i64 p.h1, .slice A n c] 85))
 have Hl := Lib.hid h.rd.hlen
 clear h
 by_cases hc : p.check = 0
 ·have b1 : (p.check != 0) = false := by simpa using hc
  have Hr : Hid (p.total = p.sum) := by show _ = _; unfold Pu.total; rw [if_pos hc]
  obtain ⟨_, k1, k2, k3, k4, _⟩ := check_ok hc
  have K1 := Lib.hid k1; have K2 := Lib.hid k2; have K3 := Lib.hid k3; have K4 := Lib.hid (held_am k4)
  clear hc k1 k2 k3 k4
  go_enter Tryz.func40, Tryz.ntmps40
  go_wp2_with fail
  refine (pcheck_any p A n c _ H.out).mono ?_
  rintro e w1 ⟨rfl, hb1⟩
  obtain ⟨z0, z1, z2, z3, z4, z5, z6, z7, z8, z9, z10, z11⟩ := PBox.all (block_below HT.out hb1 (by simp))
  have H1 := Lib.hid (H.out.up hb1)
  have Hw1 := Lib.hid ((below_one w _).trans (hb1.mono (by simp)))
  clear hb1
  go_wp2_with fail
  refine (sum_any p A n c w1 H1.out (by have := K3.out; have := Hl.out; omega) K1.out K2.out K4.out).mono ?_
  rintro e w2 ⟨rfl, hb2⟩
  have Hw2 := Lib.hid (Hw1.out.trans (hb2.mono Hw1.out.size))
  clear hb2
  go_wp2
  go_ret
  exact ⟨by rw [Hr.out]; rfl, Hw2.out⟩
 ·have b1 : (p.check != 0) = true := by simpa using hc
  have Hr : Hid (p.total = 0) := by show _ = _; unfold Pu.total; rw [if_neg hc]
  clear hc
  go_enter Tryz.func40, Tryz.ntmps40
  go_wp2_with fail
  refine (pcheck_any p A n c _ H.out).mono ?_
  rintro e w1 ⟨rfl, hb1⟩
  have Hw1 := Lib.hid ((below_one w _).trans (hb1.mono (by simp)))
  clear hb1
  go_wp2
  go_ret
  exact ⟨by rw [Hr.out]; rfl, Hw1.out⟩
def payStep (now : Int) (h : Hd) (a : Int × Int × Int) : Int × Int × Int :=
 if h.un < now then (if h.fr = 0 then (a.1 + h.am, a.2.1, a.2.2) else (a.1, a.2.1 + h.am, a.2.2)) else (a.1, a.2.1, a.2.2 + h.am)
theorem paysK_snoc (now : Int) (l : List Hd) (h : Hd) (a : Int × Int × Int) : paysK now (l ++ [h]) a = payStep now h (paysK now l a) := by
 induction l generalizing a with
 | nil => rfl
 | cons x l ih => simp only [List.cons_append, paysK]; rw [ih]
theorem paysK_take {l : List Hd} {k : Nat} (now : Int) (h : k < l.length) (a : Int × Int × Int) : paysK now (l.take (k + 1)) a = payStep now (l.getD k default) (paysK now (l.take k) a) := by
 rw [take_hd h, paysK_snoc]
theorem paysK_bound {l : List Hd} (hc : checkL l = 0) (now : Int) (a : Int × Int × Int) (ha : (0 ≤ a.1 ∧ a.1 ≤ 1125899906842624) ∧ (0 ≤ a.2.1 ∧ a.2.1 ≤ 1125899906842624) ∧ a.2.2 = 0) (k : Nat) (hk : k ≤ l.length) :
  (0 ≤ (paysK now (l.take k) a).1 ∧ (paysK now (l.take k) a).1 ≤ (k + 1) * 1125899906842624) ∧ (0 ≤ (paysK now (l.take k) a).2.1 ∧ (paysK now (l.take k) a).2.1 ≤ (k + 1) * 1125899906842624) ∧ (0 ≤ (paysK now (l.take k) a).2.2 ∧ (paysK now (l.take k) a).2.2 ≤ (k + 1) * 1125899906842624) := by
 induction k with
 | zero => simp only [List.take_zero, paysK]; omega
 | succ k ih =>
  have h1 := ih (by omega)
  have h2 := held_am hc k (by omega)
  rw [paysK_take now (by omega)]
  unfold payStep
  split
  ·split <;> simp only <;> omega
  ·simp only; omega
def GivesPays (w : World) (a : Int × Int × Int) (e : Ending) (w' : World) : Prop := e = .returned (.agg #[.int .i64 a.1, .int .i64 a.2.1, .int .i64 a.2.2]) ∧ Below w.heap.size w w'
end Go.Proofs.YthhiookcknnmdaaGreat
