/- The walks of a purse's Total and Pays. Conditions: bounds. -/
import Derived.Test.YtjiecnoplnaahaaPuC
import Derived.RegionTactic
import Derived.ChangeAlike
import Derived.Lib.SmallJoins
namespace Go.Proofs.Ytjiecnoplnaahaa
open Go.RowKit Go.Lib


/-- What a purse that may be has. -/
theorem check_ok {p : Pu} (h : p.check = 0) : (0 ≤ p.no ∧ p.no ≤ 1099511627776) ∧ (0 ≤ p.h0 ∧ p.h0 ≤ 1125899906842624) ∧ (0 ≤ p.h1 ∧ p.h1 ≤ 1125899906842624) ∧ p.held.length ≤ 16 ∧ checkL p.held = 0 ∧ (0 ≤ p.sum ∧ p.sum ≤ 1125899906842624) := by
  unfold Pu.check at h
  split at h
  · rename_i h1
    simp only [Bool.and_eq_true, far_iff, rgt_iff] at h1
    split at h
    · simp at h
    · split at h
      · split at h
        · rename_i h2 h3 h4
          exact ⟨h1.1.1, h1.1.2, h1.2, by omega, h3, rgt_iff.1 h4⟩
        · simp at h
      · rename_i h2 h3; exact absurd h h3
  · simp at h
theorem held_ok {l : List Hd} (h : checkL l = 0) (j : Nat) (hj : j < l.length) : (l.getD j default).ok ∧ twiceB l j = false := codeAt_ok.1 (checkL_all h j hj)
theorem held_am {l : List Hd} (h : checkL l = 0) (j : Nat) (hj : j < l.length) : 0 ≤ (l.getD j default).am ∧ (l.getD j default).am ≤ 1125899906842624 := by
  have := (held_ok h j hj).1.1; omega
theorem PBox.all {p : Pu} {A : Option Addr} {n c : Nat} {w : World} {b : Nat} {T : TypeId} (h : w.heap[b]? = some (.cells #[.int .u8 (p.nm.x0 : Int), .int .u8 (p.nm.x1 : Int), .int .u8 (p.nm.x2 : Int), .int .u8 (p.nm.x3 : Int), .int .u8 (p.nm.x4 : Int), .int .u8 (p.nm.x5 : Int), .int .u8 (p.nm.x6 : Int), .int .u8 (p.nm.x7 : Int), .int .i64 p.no, .int .i64 p.h0, .int .i64 p.h1, .slice A n c] T (0, 0))) :
    w.cell? ⟨b, 0, none⟩ = some (.int .u8 (p.nm.x0 : Int)) ∧ w.cell? ⟨b, 1, none⟩ = some (.int .u8 (p.nm.x1 : Int)) ∧ w.cell? ⟨b, 2, none⟩ = some (.int .u8 (p.nm.x2 : Int)) ∧ w.cell? ⟨b, 3, none⟩ = some (.int .u8 (p.nm.x3 : Int)) ∧
    w.cell? ⟨b, 4, none⟩ = some (.int .u8 (p.nm.x4 : Int)) ∧ w.cell? ⟨b, 5, none⟩ = some (.int .u8 (p.nm.x5 : Int)) ∧ w.cell? ⟨b, 6, none⟩ = some (.int .u8 (p.nm.x6 : Int)) ∧ w.cell? ⟨b, 7, none⟩ = some (.int .u8 (p.nm.x7 : Int)) ∧
    w.cell? ⟨b, 8, none⟩ = some (.int .i64 p.no) ∧ w.cell? ⟨b, 9, none⟩ = some (.int .i64 p.h0) ∧ w.cell? ⟨b, 10, none⟩ = some (.int .i64 p.h1) ∧ w.cell? ⟨b, 11, none⟩ = some (.slice A n c) :=
  ⟨block_cell h 0, block_cell h 1, block_cell h 2, block_cell h 3, block_cell h 4, block_cell h 5, block_cell h 6, block_cell h 7, block_cell h 8, block_cell h 9, block_cell h 10, block_cell h 11⟩
set_option maxRecDepth 100000 in
set_option maxHeartbeats 1000000 in
theorem total_any (p : Pu) (A : Option Addr) (n c : Nat) (w : World) (h : PuV.At p A n c w) :
    Calls Try.prog 15 #[.agg #[.int .u8 (p.nm.x0 : Int), .int .u8 (p.nm.x1 : Int), .int .u8 (p.nm.x2 : Int), .int .u8 (p.nm.x3 : Int), .int .u8 (p.nm.x4 : Int), .int .u8 (p.nm.x5 : Int), .int .u8 (p.nm.x6 : Int), .int .u8 (p.nm.x7 : Int), .int .i64 p.no, .int .i64 p.h0, .int .i64 p.h1, .slice A n c]] w fun e w' => e = .returned (.int .i64 p.total) ∧ Below w.heap.size w w' := by
  have H := Lib.hid (h.up (below_one w (.cells #[.int .u8 (p.nm.x0 : Int), .int .u8 (p.nm.x1 : Int), .int .u8 (p.nm.x2 : Int), .int .u8 (p.nm.x3 : Int), .int .u8 (p.nm.x4 : Int), .int .u8 (p.nm.x5 : Int), .int .u8 (p.nm.x6 : Int), .int .u8 (p.nm.x7 : Int), .int .i64 p.no, .int .i64 p.h0, .int .i64 p.h1, .slice A n c] 32)))
  have HT := Lib.hid (heap_alloc_new w (.cells #[.int .u8 (p.nm.x0 : Int), .int .u8 (p.nm.x1 : Int), .int .u8 (p.nm.x2 : Int), .int .u8 (p.nm.x3 : Int), .int .u8 (p.nm.x4 : Int), .int .u8 (p.nm.x5 : Int), .int .u8 (p.nm.x6 : Int), .int .u8 (p.nm.x7 : Int), .int .i64 p.no, .int .i64 p.h0, .int .i64 p.h1, .slice A n c] 32))
  have Hl := Lib.hid h.rd.hlen
  clear h
  by_cases hc : p.check = 0
  · have b1 : (p.check != 0) = false := by simpa using hc
    have Hr : Hid (p.total = p.sum) := by show _ = _; unfold Pu.total; rw [if_pos hc]
    obtain ⟨_, k1, k2, k3, k4, _⟩ := check_ok hc
    have K1 := Lib.hid k1; have K2 := Lib.hid k2; have K3 := Lib.hid k3; have K4 := Lib.hid (held_am k4)
    clear hc k1 k2 k3 k4
    go_enter Try.func15, Try.ntmps15
    go_wp2_with fail
    refine (pcheck_any p A n c _ H.out).mono ?_
    rintro e w1 ⟨rfl, hb1⟩
    obtain ⟨z0, z1, z2, z3, z4, z5, z6, z7, z8, z9, z10, z11⟩ := PBox.all (block_below HT.out hb1 (by simp))
    have H1 := Lib.hid (H.out.up hb1)
    have Hw1 := Lib.hid ((below_one w _).trans (hb1.mono (by simp)))
    clear hb1
    go_wp2_with fail
    refine (sum_any p A n c w1 H1.out (by have := K3.out; have := Hl.out; omega) K1.out K2.out K4.out).mono ?_
    rintro e w2 ⟨rfl, hb2⟩
    have Hw2 := Lib.hid (Hw1.out.trans (hb2.mono Hw1.out.size))
    clear hb2
    go_wp2
    go_ret
    exact ⟨by rw [Hr.out]; rfl, Hw2.out⟩
  · have b1 : (p.check != 0) = true := by simpa using hc
    have Hr : Hid (p.total = 0) := by show _ = _; unfold Pu.total; rw [if_neg hc]
    clear hc
    go_enter Try.func15, Try.ntmps15
    go_wp2_with fail
    refine (pcheck_any p A n c _ H.out).mono ?_
    rintro e w1 ⟨rfl, hb1⟩
    have Hw1 := Lib.hid ((below_one w _).trans (hb1.mono (by simp)))
    clear hb1
    go_wp2
    go_ret
    exact ⟨by rw [Hr.out]; rfl, Hw1.out⟩
/-- One held one more, paid or not. -/
def payStep (now : Int) (h : Hd) (a : Int × Int × Int) : Int × Int × Int :=
  if h.un < now then (if h.fr = 0 then (a.1 + h.am, a.2.1, a.2.2) else (a.1, a.2.1 + h.am, a.2.2)) else (a.1, a.2.1, a.2.2 + h.am)
theorem paysK_snoc (now : Int) (l : List Hd) (h : Hd) (a : Int × Int × Int) : paysK now (l ++ [h]) a = payStep now h (paysK now l a) := by
  induction l generalizing a with
  | nil => rfl
  | cons x l ih => simp only [List.cons_append, paysK]; rw [ih]
theorem paysK_take {l : List Hd} {k : Nat} (now : Int) (h : k < l.length) (a : Int × Int × Int) : paysK now (l.take (k + 1)) a = payStep now (l.getD k default) (paysK now (l.take k) a) := by
  rw [take_hd h, paysK_snoc]
theorem paysK_bound {l : List Hd} (hc : checkL l = 0) (now : Int) (a : Int × Int × Int) (ha : (0 ≤ a.1 ∧ a.1 ≤ 1125899906842624) ∧ (0 ≤ a.2.1 ∧ a.2.1 ≤ 1125899906842624) ∧ a.2.2 = 0) (k : Nat) (hk : k ≤ l.length) :
    (0 ≤ (paysK now (l.take k) a).1 ∧ (paysK now (l.take k) a).1 ≤ (k + 1) * 1125899906842624) ∧ (0 ≤ (paysK now (l.take k) a).2.1 ∧ (paysK now (l.take k) a).2.1 ≤ (k + 1) * 1125899906842624) ∧ (0 ≤ (paysK now (l.take k) a).2.2 ∧ (paysK now (l.take k) a).2.2 ≤ (k + 1) * 1125899906842624) := by
  induction k with
  | zero => simp only [List.take_zero, paysK]; omega
  | succ k ih =>
    have h1 := ih (by omega)
    have h2 := held_am hc k (by omega)
    rw [paysK_take now (by omega)]
    unfold payStep
    split
    · split <;> simp only <;> omega
    · simp only; omega
def GivesPays (w : World) (a : Int × Int × Int) (e : Ending) (w' : World) : Prop := e = .returned (.agg #[.int .i64 a.1, .int .i64 a.2.1, .int .i64 a.2.2]) ∧ Below w.heap.size w w'
set_option maxRecDepth 100000 in
set_option maxHeartbeats 2000000 in
theorem pays_any (p : Pu) (A : Option Addr) (n c : Nat) (now : Int) (w : World) (h : PuV.At p A n c w) :
    Calls Try.prog 14 #[.agg #[.int .u8 (p.nm.x0 : Int), .int .u8 (p.nm.x1 : Int), .int .u8 (p.nm.x2 : Int), .int .u8 (p.nm.x3 : Int), .int .u8 (p.nm.x4 : Int), .int .u8 (p.nm.x5 : Int), .int .u8 (p.nm.x6 : Int), .int .u8 (p.nm.x7 : Int), .int .i64 p.no, .int .i64 p.h0, .int .i64 p.h1, .slice A n c], .int .i64 now] w (GivesPays w (p.pays now)) := by
  have HT := Lib.hid (block_alloc (heap_alloc_new w (.cells #[.int .u8 (p.nm.x0 : Int), .int .u8 (p.nm.x1 : Int), .int .u8 (p.nm.x2 : Int), .int .u8 (p.nm.x3 : Int), .int .u8 (p.nm.x4 : Int), .int .u8 (p.nm.x5 : Int), .int .u8 (p.nm.x6 : Int), .int .u8 (p.nm.x7 : Int), .int .i64 p.no, .int .i64 p.h0, .int .i64 p.h1, .slice A n c] 32)) (.cells #[.int .i64 0, .int .i64 0, .int .i64 0] 34))
  have HR : Hid (((w.alloc (.cells #[.int .u8 (p.nm.x0 : Int), .int .u8 (p.nm.x1 : Int), .int .u8 (p.nm.x2 : Int), .int .u8 (p.nm.x3 : Int), .int .u8 (p.nm.x4 : Int), .int .u8 (p.nm.x5 : Int), .int .u8 (p.nm.x6 : Int), .int .u8 (p.nm.x7 : Int), .int .i64 p.no, .int .i64 p.h0, .int .i64 p.h1, .slice A n c] 32)).alloc (.cells #[.int .i64 0, .int .i64 0, .int .i64 0] 34)).heap[w.heap.size + 1]? = some (.cells #[.int .i64 0, .int .i64 0, .int .i64 0] 34 (0, 0))) := by
    have := heap_alloc_new (w.alloc (.cells #[.int .u8 (p.nm.x0 : Int), .int .u8 (p.nm.x1 : Int), .int .u8 (p.nm.x2 : Int), .int .u8 (p.nm.x3 : Int), .int .u8 (p.nm.x4 : Int), .int .u8 (p.nm.x5 : Int), .int .u8 (p.nm.x6 : Int), .int .u8 (p.nm.x7 : Int), .int .i64 p.no, .int .i64 p.h0, .int .i64 p.h1, .slice A n c] 32)) (.cells #[.int .i64 0, .int .i64 0, .int .i64 0] 34)
    rw [World.size_alloc] at this; exact this
  have H := Lib.hid (h.up (below_two w (.cells #[.int .u8 (p.nm.x0 : Int), .int .u8 (p.nm.x1 : Int), .int .u8 (p.nm.x2 : Int), .int .u8 (p.nm.x3 : Int), .int .u8 (p.nm.x4 : Int), .int .u8 (p.nm.x5 : Int), .int .u8 (p.nm.x6 : Int), .int .u8 (p.nm.x7 : Int), .int .i64 p.no, .int .i64 p.h0, .int .i64 p.h1, .slice A n c] 32) (.cells #[.int .i64 0, .int .i64 0, .int .i64 0] 34)))
  have Hl := Lib.hid h.rd.hlen
  clear h
  by_cases hc : p.check = 0
  · have b1 : (p.check != 0) = false := by simpa using hc
    have Hr : Hid (p.pays now = paysK now p.held (p.h0, p.h1, 0)) := by show _ = _; unfold Pu.pays; rw [if_pos hc]
    obtain ⟨_, k1, k2, k3, k4, _⟩ := check_ok hc
    have K4 := Lib.hid k4
    have hn16 : n ≤ 16 := by rw [← Hl.out]; exact k3
    have Hbd := Lib.hid (paysK_bound k4 now (p.h0, p.h1, 0) ⟨k1, k2, rfl⟩)
    clear hc k1 k2 k3 k4
    go_enter Try.func14, Try.ntmps14
    go_wp2_with fail
    refine (pcheck_any p A n c _ H.out).mono ?_
    rintro e w1 ⟨rfl, hb1⟩
    obtain ⟨z0, z1, z2, z3, z4, z5, z6, z7, z8, z9, z10, z11⟩ := PBox.all (block_below HT.out hb1 (by simp; omega))
    have H1 := Lib.hid (H.out.up hb1)
    have HR1 := Lib.hid (block_below HR.out hb1 (by simp))
    have Hw1 := Lib.hid ((below_two w _ _).trans (hb1.mono (by simp; omega)))
    have hz1 := hb1.size
    simp at hz1
    have hz1' : w.heap.size < w1.heap.size := by omega
    clear hb1
    go_wp2
    obtain ⟨wq, rfl⟩ : ∃ wq : World, wq = w1 := ⟨_, rfl⟩
    go_loopw [22] (fun i wr => ∃ k : Nat, k ≤ n ∧ i = .int .i64 (k : Int) ∧ wr.heap[wq.heap.size]? = some (.cells #[.int .i64 (paysK now (p.held.take k) (p.h0, p.h1, 0)).1, .int .i64 (paysK now (p.held.take k) (p.h0, p.h1, 0)).2.1, .int .i64 (paysK now (p.held.take k) (p.h0, p.h1, 0)).2.2] 34 (0, 0)) ∧ wr.heap[w.heap.size + 1]? = some (.cells #[.int .i64 0, .int .i64 0, .int .i64 0] 34 (0, 0)) ∧ Rd wr wq.heap.size 11 A n (flatH p.held) ∧ Below w.heap.size w wr) (fun i _ => n - (intOf i).toNat)
    case atStart => exact ⟨0, by omega, rfl, heap_alloc_new _ _, block_alloc HR1.out _, H1.out.rd.alloc (Nat.le_refl _) _, Hw1.out.alloc Hw1.out.size _⟩
    case round =>
      obtain ⟨k, hk, rfl, hTp, hT4, hrd, hbel⟩ := hrel
      clear z0 z1 z2 z3 z4 z5 z6 z7 z8 z9 z10 z11
      have Hbel := Lib.hid hbel; have HTp := Lib.hid hTp; have HT4 := Lib.hid hT4
      have hbd := Hbd.out k (by have := Hl.out; omega)
      have q0 := block_cell hTp 0; have q1 := block_cell hTp 1; have q2 := block_cell hTp 2; have qf := block_free hTp
      simp at q0 q1 q2
      have hwz := block_lt HTp.out
      by_cases hlt : k < n
      · have Hrd := Lib.hid hrd
        obtain ⟨b, o, rfl, hbB, x0, x1, x2, x3, x4, x5, x6, x7, x8, x9, x10⟩ := hrd.hd hlt
        have Hst := Lib.hid (paysK_take now (show k < p.held.length by have := Hl.out; omega) (p.h0, p.h1, 0))
        have hok := held_ok K4.out k (by have := Hl.out; omega)
        obtain ⟨⟨⟨o1, o2⟩, ⟨o3, o4⟩, _⟩, _⟩ := hok
        generalize p.held.getD k default = h at *
        generalize paysK now (p.held.take k) (p.h0, p.h1, 0) = a at *
        obtain ⟨a0, a1, a2⟩ := a
        obtain ⟨nm, am, fr, un⟩ := h
        simp only at x0 x1 x2 x3 x4 x5 x6 x7 x8 x9 x10 o1 o2 o3 o4 q0 q1 q2 hbd
        obtain ⟨⟨e0, e1⟩, ⟨e2, e3⟩, e4, e5⟩ := hbd
        have hd1 : decide ((k : Int) < (n : Int)) = true := decide_eq_true (by omega)
        have hki : (k : Int) < (n : Int) := by omega
        have hk15 : (k : Int) ≤ 15 := by omega
        have HTpa := Lib.hid (block_alloc HTp.out (.cells #[.int .u8 (nm.x0 : Int), .int .u8 (nm.x1 : Int), .int .u8 (nm.x2 : Int), .int .u8 (nm.x3 : Int), .int .u8 (nm.x4 : Int), .int .u8 (nm.x5 : Int), .int .u8 (nm.x6 : Int), .int .u8 (nm.x7 : Int), .int .i64 am, .int .i64 fr, .int .i64 un] 56))
        have HT4a := Lib.hid (block_alloc HT4.out (.cells #[.int .u8 (nm.x0 : Int), .int .u8 (nm.x1 : Int), .int .u8 (nm.x2 : Int), .int .u8 (nm.x3 : Int), .int .u8 (nm.x4 : Int), .int .u8 (nm.x5 : Int), .int .u8 (nm.x6 : Int), .int .u8 (nm.x7 : Int), .int .i64 am, .int .i64 fr, .int .i64 un] 56))
        have Hrda := Lib.hid (Hrd.out.alloc (by omega) (.cells #[.int .u8 (nm.x0 : Int), .int .u8 (nm.x1 : Int), .int .u8 (nm.x2 : Int), .int .u8 (nm.x3 : Int), .int .u8 (nm.x4 : Int), .int .u8 (nm.x5 : Int), .int .u8 (nm.x6 : Int), .int .u8 (nm.x7 : Int), .int .i64 am, .int .i64 fr, .int .i64 un] 56))
        clear hTp hT4 hbel hrd
        by_cases hu : un < now
        · have b2 : decide (un < now) = true := decide_eq_true hu
          have hfr : fr = 0 ∨ fr = 1 := by omega
          rcases hfr with rfl | rfl
          · have Hs2 : Hid (payStep now ⟨nm, am, 0, un⟩ (a0, a1, a2) = (a0 + am, a1, a2)) := by show _ = _; simp [payStep, hu]
            clear hu
            go_wp2
            go_region
            all_goals
              go_wp2
              go_roundw
              case rel =>
                refine ⟨k + 1, by omega, by go_num, ?_, ?_, ?_, ?_⟩
                · rw [Hst.out, Hs2.out]
                  exact block_alloc (by simpa using Joins.block_setCell (i := 0) HTp.out (.int .i64 (a0 + am))) _
                · exact block_alloc ((Below.heap_setCell wr ⟨wq.heap.size, 0, none⟩ (.int .i64 (a0 + am)) (w.heap.size + 1) (by show w.heap.size + 1 ≠ wq.heap.size; omega)).trans HT4.out) _
                · exact ((Hrd.out.setCell (p := ⟨wq.heap.size, 0, none⟩) (Nat.le_refl _) (.int .i64 (a0 + am))).alloc (by simp; omega) _)
                · exact ((Hbel.out.setCell (p := ⟨wq.heap.size, 0, none⟩) (by show w.heap.size ≤ wq.heap.size; omega) (.int .i64 (a0 + am))).alloc (by simpa using Hbel.out.size) _).drew
              case measure => simp [intOf]; omega
          · have Hs2 : Hid (payStep now ⟨nm, am, 1, un⟩ (a0, a1, a2) = (a0, a1 + am, a2)) := by show _ = _; simp [payStep, hu]
            clear hu
            go_wp2
            go_region
            all_goals
              go_wp2
              go_roundw
              case rel =>
                refine ⟨k + 1, by omega, by go_num, ?_, ?_, ?_, ?_⟩
                · rw [Hst.out, Hs2.out]
                  exact block_alloc (by simpa using Joins.block_setCell (i := 1) HTp.out (.int .i64 (a1 + am))) _
                · exact block_alloc ((Below.heap_setCell wr ⟨wq.heap.size, 1, none⟩ (.int .i64 (a1 + am)) (w.heap.size + 1) (by show w.heap.size + 1 ≠ wq.heap.size; omega)).trans HT4.out) _
                · exact ((Hrd.out.setCell (p := ⟨wq.heap.size, 1, none⟩) (Nat.le_refl _) (.int .i64 (a1 + am))).alloc (by simp; omega) _)
                · exact ((Hbel.out.setCell (p := ⟨wq.heap.size, 1, none⟩) (by show w.heap.size ≤ wq.heap.size; omega) (.int .i64 (a1 + am))).alloc (by simpa using Hbel.out.size) _).drew
              case measure => simp [intOf]; omega
        · have b2 : decide (un < now) = false := decide_eq_false hu
          have Hs2 : Hid (payStep now ⟨nm, am, fr, un⟩ (a0, a1, a2) = (a0, a1, a2 + am)) := by show _ = _; simp [payStep, hu]
          clear hu
          go_wp2
          go_roundw
          case rel =>
            refine ⟨k + 1, by omega, by go_num, ?_, ?_, ?_, ?_⟩
            · rw [Hst.out, Hs2.out]
              exact block_alloc (by simpa using Joins.block_setCell (i := 2) HTp.out (.int .i64 (a2 + am))) _
            · exact block_alloc ((Below.heap_setCell wr ⟨wq.heap.size, 2, none⟩ (.int .i64 (a2 + am)) (w.heap.size + 1) (by show w.heap.size + 1 ≠ wq.heap.size; omega)).trans HT4.out) _
            · exact ((Hrd.out.setCell (p := ⟨wq.heap.size, 2, none⟩) (Nat.le_refl _) (.int .i64 (a2 + am))).alloc (by simp; omega) _)
            · exact ((Hbel.out.setCell (p := ⟨wq.heap.size, 2, none⟩) (by show w.heap.size ≤ wq.heap.size; omega) (.int .i64 (a2 + am))).alloc (by simpa using Hbel.out.size) _)
          case measure => simp [intOf]; omega
      · have hkn : k = n := by omega
        subst hkn
        have hd1 : decide ((k : Int) < (k : Int)) = false := decide_eq_false (by omega)
        have e : p.held.take k = p.held := List.take_of_length_le (by have := Hl.out; omega)
        rw [e] at q0 q1 q2
        rw [e] at HTp
        generalize hpk : paysK now p.held (p.h0, p.h1, 0) = a at *
        obtain ⟨a0, a1, a2⟩ := a
        simp only at q0 q1 q2
        have Hpk := Lib.hid hpk
        clear hTp hT4 hbel hbd hlt e hpk
        have T4 := HT4.out
        have r0 := block_cell T4 0; have r1 := block_cell T4 1; have r2 := block_cell T4 2; have rf := block_free T4
        simp at r0 r1 r2
        clear T4
        go_wp2
        refine bodyPost_ret (v := .agg #[.int .i64 a0, .int .i64 a1, .int .i64 a2]) (by simp [results, Try.results14, go_sem, r0, r1, r2]) rfl ⟨by rw [Hr.out], ?_⟩
        exact ((Hbel.out.setCell (by simp) _).setCell (by simp) _).setCell (by simp) _
  · have b1 : (p.check != 0) = true := by simpa using hc
    have Hr : Hid (p.pays now = (0, 0, 0)) := by show _ = _; unfold Pu.pays; rw [if_neg hc]
    clear hc
    go_enter Try.func14, Try.ntmps14
    go_wp2_with fail
    refine (pcheck_any p A n c _ H.out).mono ?_
    rintro e w1 ⟨rfl, hb1⟩
    have T4 := block_below HR.out hb1 (by simp)
    have q0 := block_cell T4 0; have q1 := block_cell T4 1; have q2 := block_cell T4 2; have qf := block_free T4
    simp at q0 q1 q2
    have Hw1 := Lib.hid ((below_two w _ _).trans (hb1.mono (by simp; omega)))
    clear hb1 T4
    go_wp2
    refine bodyPost_ret (v := .agg #[.int .i64 0, .int .i64 0, .int .i64 0]) (by simp [results, Try.results14, go_sem, q0, q1, q2]) rfl ⟨by rw [Hr.out], ?_⟩
    exact ((Hw1.out.setCell (by simp) _).setCell (by simp) _).setCell (by simp) _
end Go.Proofs.Ytjiecnoplnaahaa
