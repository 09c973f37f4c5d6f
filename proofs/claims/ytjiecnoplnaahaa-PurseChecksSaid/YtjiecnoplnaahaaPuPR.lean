/- The walks of the reference's Total and Pays of a purse. Conditions: bounds. -/
import Derived.Test.YtjiecnoplnaahaaPuD
import Derived.Test.YtjiecnoplnaahaaPuV
import Derived.Deep.RegionLaw
namespace Go.Proofs.Ytjiecnoplnaahaa
open Go.RowKit Go.Lib


set_option maxRecDepth 100000 in
set_option maxHeartbeats 1000000 in
theorem totalr_any (p : Pu) (A : Option Addr) (n c : Nat) (w : World) (h : PuV.At p A n c w) :
    Calls Try.prog 25 #[.agg #[.int .u8 (p.nm.x0 : Int), .int .u8 (p.nm.x1 : Int), .int .u8 (p.nm.x2 : Int), .int .u8 (p.nm.x3 : Int), .int .u8 (p.nm.x4 : Int), .int .u8 (p.nm.x5 : Int), .int .u8 (p.nm.x6 : Int), .int .u8 (p.nm.x7 : Int), .int .i64 p.no, .int .i64 p.h0, .int .i64 p.h1, .slice A n c]] w fun e w' => e = .returned (.int .i64 p.total) ∧ Below w.heap.size w w' := by
  have H := Lib.hid (h.up (below_one w (.cells #[.int .u8 (p.nm.x0 : Int), .int .u8 (p.nm.x1 : Int), .int .u8 (p.nm.x2 : Int), .int .u8 (p.nm.x3 : Int), .int .u8 (p.nm.x4 : Int), .int .u8 (p.nm.x5 : Int), .int .u8 (p.nm.x6 : Int), .int .u8 (p.nm.x7 : Int), .int .i64 p.no, .int .i64 p.h0, .int .i64 p.h1, .slice A n c] 26)))
  have HT := Lib.hid (heap_alloc_new w (.cells #[.int .u8 (p.nm.x0 : Int), .int .u8 (p.nm.x1 : Int), .int .u8 (p.nm.x2 : Int), .int .u8 (p.nm.x3 : Int), .int .u8 (p.nm.x4 : Int), .int .u8 (p.nm.x5 : Int), .int .u8 (p.nm.x6 : Int), .int .u8 (p.nm.x7 : Int), .int .i64 p.no, .int .i64 p.h0, .int .i64 p.h1, .slice A n c] 26))
  have Hl := Lib.hid h.rd.hlen
  clear h
  by_cases hc : p.check = 0
  · have b1 : (p.check != 0) = false := by simpa using hc
    have Hr : Hid (p.total = p.sum) := by show _ = _; unfold Pu.total; rw [if_pos hc]
    obtain ⟨_, k1, k2, k3, k4, _⟩ := check_ok hc
    have Hok := Lib.hid (held_am k4)
    have hn16 : n ≤ 16 := by rw [← Hl.out]; exact k3
    obtain ⟨p0, p1⟩ := k1
    obtain ⟨p2, p3⟩ := k2
    clear hc k3 k4
    go_enter Try.func25, Try.ntmps25
    go_wp2_with fail
    refine (checkr_any p A n c _ H.out).mono ?_
    rintro e w1 ⟨rfl, hb1⟩
    obtain ⟨z0, z1, z2, z3, z4, z5, z6, z7, z8, z9, z10, z11⟩ := PBox.all (block_below HT.out hb1 (by simp))
    have H1 := Lib.hid (H.out.up hb1)
    have Hw1 := Lib.hid ((below_one w _).trans (hb1.mono (by simp)))
    clear hb1
    go_wp2
    go_loop [3, 4] (fun s i => ∃ k : Nat, k ≤ n ∧ i = .int .i64 (k : Int) ∧ s = .int .i64 (p.h0 + p.h1 + sumL (p.held.take k))) (fun _ i => n - (intOf i).toNat)
    case atStart => exact ⟨0, by omega, rfl, by simp [sumL]⟩
    case round =>
      obtain ⟨k, hk, rfl, rfl⟩ := hrel
      have hsb := sumL_bound Hok.out k (by have := Hl.out; omega)
      obtain ⟨s0, s1⟩ := hsb
      by_cases hlt : k < n
      · obtain ⟨b, o, rfl, hbB, x0, x1, x2, x3, x4, x5, x6, x7, x8, x9, x10⟩ := H1.out.rd.hd hlt
        have hok := Hok.out k (by have := Hl.out; omega)
        have Hst := Lib.hid (sumL_take (l := p.held) (k := k) (by have := Hl.out; omega))
        obtain ⟨k0, k1⟩ := hok
        generalize p.held.getD k default = h at *
        generalize sumL (p.held.take k) = s at *
        have hd1 : decide ((k : Int) < (n : Int)) = true := decide_eq_true (by omega)
        have hi0 : (0 : Int) ≤ (k : Int) := by omega
        have hi1 : (k : Int) < (n : Int) := by omega
        have hki : (k : Int) ≤ 15 := by omega
        go_wp2
        go_round
        case rel => exact ⟨k + 1, by omega, by go_num, by rw [Hst.out]; first | rfl | (congr 1; omega)⟩
        case measure => simp [intOf]; omega
      · have hkn : k = n := by omega
        subst hkn
        have hd1 : decide ((k : Int) < (k : Int)) = false := decide_eq_false (by omega)
        have e : p.held.take k = p.held := List.take_of_length_le (by have := Hl.out; omega)
        have He := Lib.hid e
        clear hlt e
        go_wp2
        go_ret
        exact ⟨ret_int (by rw [He.out, Hr.out]; rfl), Hw1.out⟩
  · have b1 : (p.check != 0) = true := by simpa using hc
    have Hr : Hid (p.total = 0) := by show _ = _; unfold Pu.total; rw [if_neg hc]
    clear hc
    go_enter Try.func25, Try.ntmps25
    go_wp2_with fail
    refine (checkr_any p A n c _ H.out).mono ?_
    rintro e w1 ⟨rfl, hb1⟩
    have Hw1 := Lib.hid ((below_one w _).trans (hb1.mono (by simp)))
    clear hb1
    go_wp2
    go_ret
    exact ⟨by rw [Hr.out]; rfl, Hw1.out⟩
set_option maxRecDepth 100000 in
set_option maxHeartbeats 2000000 in
theorem paysr_any (p : Pu) (A : Option Addr) (n c : Nat) (now : Int) (w : World) (h : PuV.At p A n c w) :
    Calls Try.prog 26 #[.agg #[.int .u8 (p.nm.x0 : Int), .int .u8 (p.nm.x1 : Int), .int .u8 (p.nm.x2 : Int), .int .u8 (p.nm.x3 : Int), .int .u8 (p.nm.x4 : Int), .int .u8 (p.nm.x5 : Int), .int .u8 (p.nm.x6 : Int), .int .u8 (p.nm.x7 : Int), .int .i64 p.no, .int .i64 p.h0, .int .i64 p.h1, .slice A n c], .int .i64 now] w (GivesPays w (p.pays now)) := by
  have HT := Lib.hid (block_alloc (heap_alloc_new w (.cells #[.int .u8 (p.nm.x0 : Int), .int .u8 (p.nm.x1 : Int), .int .u8 (p.nm.x2 : Int), .int .u8 (p.nm.x3 : Int), .int .u8 (p.nm.x4 : Int), .int .u8 (p.nm.x5 : Int), .int .u8 (p.nm.x6 : Int), .int .u8 (p.nm.x7 : Int), .int .i64 p.no, .int .i64 p.h0, .int .i64 p.h1, .slice A n c] 26)) (.cells #[.int .i64 0, .int .i64 0, .int .i64 0] 34))
  have HR : Hid (((w.alloc (.cells #[.int .u8 (p.nm.x0 : Int), .int .u8 (p.nm.x1 : Int), .int .u8 (p.nm.x2 : Int), .int .u8 (p.nm.x3 : Int), .int .u8 (p.nm.x4 : Int), .int .u8 (p.nm.x5 : Int), .int .u8 (p.nm.x6 : Int), .int .u8 (p.nm.x7 : Int), .int .i64 p.no, .int .i64 p.h0, .int .i64 p.h1, .slice A n c] 26)).alloc (.cells #[.int .i64 0, .int .i64 0, .int .i64 0] 34)).heap[w.heap.size + 1]? = some (.cells #[.int .i64 0, .int .i64 0, .int .i64 0] 34 (0, 0))) := by
    have := heap_alloc_new (w.alloc (.cells #[.int .u8 (p.nm.x0 : Int), .int .u8 (p.nm.x1 : Int), .int .u8 (p.nm.x2 : Int), .int .u8 (p.nm.x3 : Int), .int .u8 (p.nm.x4 : Int), .int .u8 (p.nm.x5 : Int), .int .u8 (p.nm.x6 : Int), .int .u8 (p.nm.x7 : Int), .int .i64 p.no, .int .i64 p.h0, .int .i64 p.h1, .slice A n c] 26)) (.cells #[.int .i64 0, .int .i64 0, .int .i64 0] 34)
    rw [World.size_alloc] at this; exact this
  have H := Lib.hid (h.up (below_two w (.cells #[.int .u8 (p.nm.x0 : Int), .int .u8 (p.nm.x1 : Int), .int .u8 (p.nm.x2 : Int), .int .u8 (p.nm.x3 : Int), .int .u8 (p.nm.x4 : Int), .int .u8 (p.nm.x5 : Int), .int .u8 (p.nm.x6 : Int), .int .u8 (p.nm.x7 : Int), .int .i64 p.no, .int .i64 p.h0, .int .i64 p.h1, .slice A n c] 26) (.cells #[.int .i64 0, .int .i64 0, .int .i64 0] 34)))
  have Hl := Lib.hid h.rd.hlen
  clear h
  by_cases hc : p.check = 0
  · have b1 : (p.check != 0) = false := by simpa using hc
    have Hr : Hid (p.pays now = paysK now p.held (p.h0, p.h1, 0)) := by show _ = _; unfold Pu.pays; rw [if_pos hc]
    obtain ⟨_, k1, k2, k3, k4, _⟩ := check_ok hc
    have K4 := Lib.hid k4
    have hn16 : n ≤ 16 := by rw [← Hl.out]; exact k3
    have Hbd := Lib.hid (paysK_bound k4 now (p.h0, p.h1, 0) ⟨k1, k2, rfl⟩)
    clear hc k1 k2 k3 k4
    go_enter Try.func26, Try.ntmps26
    go_wp2_with fail
    refine (checkr_any p A n c _ H.out).mono ?_
    rintro e w1 ⟨rfl, hb1⟩
    have HT1 := Lib.hid (block_below HT.out hb1 (by simp; omega))
    obtain ⟨z0, z1, z2, z3, z4, z5, z6, z7, z8, z9, z10, z11⟩ := PBox.all HT1.out
    have H1 := Lib.hid (H.out.up hb1)
    have HR1 := Lib.hid (block_below HR.out hb1 (by simp))
    have Hw1 := Lib.hid ((below_two w _ _).trans (hb1.mono (by simp; omega)))
    have hz1 := hb1.size
    simp at hz1
    have hz1' : w.heap.size < w1.heap.size := by omega
    clear hb1
    go_wp2
    obtain ⟨wq, rfl⟩ : ∃ wq : World, wq = w1 := ⟨_, rfl⟩
    go_loopw [6] (fun i wr => ∃ k : Nat, k ≤ n ∧ i = .int .i64 (k : Int) ∧ wr.heap[wq.heap.size]? = some (.cells #[.int .i64 (paysK now (p.held.take k) (p.h0, p.h1, 0)).1, .int .i64 (paysK now (p.held.take k) (p.h0, p.h1, 0)).2.1, .int .i64 (paysK now (p.held.take k) (p.h0, p.h1, 0)).2.2] 34 (0, 0)) ∧ wr.heap[w.heap.size + 1]? = some (.cells #[.int .i64 0, .int .i64 0, .int .i64 0] 34 (0, 0)) ∧ wr.heap[w.heap.size]? = some (.cells #[.int .u8 (p.nm.x0 : Int), .int .u8 (p.nm.x1 : Int), .int .u8 (p.nm.x2 : Int), .int .u8 (p.nm.x3 : Int), .int .u8 (p.nm.x4 : Int), .int .u8 (p.nm.x5 : Int), .int .u8 (p.nm.x6 : Int), .int .u8 (p.nm.x7 : Int), .int .i64 p.no, .int .i64 p.h0, .int .i64 p.h1, .slice A n c] 26 (0, 0)) ∧ Rd wr wq.heap.size 11 A n (flatH p.held) ∧ Below w.heap.size w wr) (fun i _ => n - (intOf i).toNat)
    case atStart => exact ⟨0, by omega, rfl, heap_alloc_new _ _, block_alloc HR1.out _, block_alloc HT1.out _, H1.out.rd.alloc (Nat.le_refl _) _, Hw1.out.alloc Hw1.out.size _⟩
    case round =>
      obtain ⟨k, hk, rfl, hTp, hT4, hTb, hrd, hbel⟩ := hrel
      clear z0 z1 z2 z3 z4 z5 z6 z7 z8 z9 z10 z11
      have Hbel := Lib.hid hbel; have HTp := Lib.hid hTp; have HT4 := Lib.hid hT4; have HTb := Lib.hid hTb
      have hbd := Hbd.out k (by have := Hl.out; omega)
      have q0 := block_cell hTp 0; have q1 := block_cell hTp 1; have q2 := block_cell hTp 2; have qf := block_free hTp
      simp at q0 q1 q2
      have hwz := block_lt HTp.out
      by_cases hlt : k < n
      · have Hrd := Lib.hid hrd
        obtain ⟨b, o, rfl, hbB, x0, x1, x2, x3, x4, x5, x6, x7, x8, x9, x10⟩ := hrd.hd hlt
        have Hst := Lib.hid (paysK_take now (show k < p.held.length by have := Hl.out; omega) (p.h0, p.h1, 0))
        have hok := held_ok K4.out k (by have := Hl.out; omega)
        obtain ⟨⟨⟨o1, o2⟩, ⟨o3, o4⟩, _⟩, _⟩ := hok
        generalize p.held.getD k default = h at *
        generalize paysK now (p.held.take k) (p.h0, p.h1, 0) = a at *
        obtain ⟨a0, a1, a2⟩ := a
        obtain ⟨nm, am, fr, un⟩ := h
        simp only at x0 x1 x2 x3 x4 x5 x6 x7 x8 x9 x10 o1 o2 o3 o4 q0 q1 q2 hbd
        obtain ⟨⟨e0, e1⟩, ⟨e2, e3⟩, e4, e5⟩ := hbd
        have hd1 : decide ((k : Int) < (n : Int)) = true := decide_eq_true (by omega)
        have hki : (k : Int) < (n : Int) := by omega
        have hk15 : (k : Int) ≤ 15 := by omega
        have z11 := block_cell hTb 11
        simp at z11
        have HTpa := Lib.hid (block_alloc HTp.out (.cells #[.int .u8 (nm.x0 : Int), .int .u8 (nm.x1 : Int), .int .u8 (nm.x2 : Int), .int .u8 (nm.x3 : Int), .int .u8 (nm.x4 : Int), .int .u8 (nm.x5 : Int), .int .u8 (nm.x6 : Int), .int .u8 (nm.x7 : Int), .int .i64 am, .int .i64 fr, .int .i64 un] 60))
        have HT4a := Lib.hid (block_alloc HT4.out (.cells #[.int .u8 (nm.x0 : Int), .int .u8 (nm.x1 : Int), .int .u8 (nm.x2 : Int), .int .u8 (nm.x3 : Int), .int .u8 (nm.x4 : Int), .int .u8 (nm.x5 : Int), .int .u8 (nm.x6 : Int), .int .u8 (nm.x7 : Int), .int .i64 am, .int .i64 fr, .int .i64 un] 60))
        have Hrda := Lib.hid (Hrd.out.alloc (by omega) (.cells #[.int .u8 (nm.x0 : Int), .int .u8 (nm.x1 : Int), .int .u8 (nm.x2 : Int), .int .u8 (nm.x3 : Int), .int .u8 (nm.x4 : Int), .int .u8 (nm.x5 : Int), .int .u8 (nm.x6 : Int), .int .u8 (nm.x7 : Int), .int .i64 am, .int .i64 fr, .int .i64 un] 60))
        clear hTp hT4 hbel hrd hTb
        by_cases hu : un < now
        · have b2 : decide (un < now) = true := decide_eq_true hu
          have hfr : fr = 0 ∨ fr = 1 := by omega
          rcases hfr with rfl | rfl
          · have Hs2 : Hid (payStep now ⟨nm, am, 0, un⟩ (a0, a1, a2) = (a0 + am, a1, a2)) := by show _ = _; simp [payStep, hu]
            clear hu
            go_wp2
            go_region
            all_goals
              go_wp2
              go_roundw
              case rel =>
                refine ⟨k + 1, by omega, by go_num, ?_, ?_, ?_, ?_, ?_⟩
                · rw [Hst.out, Hs2.out]
                  exact block_alloc (by simpa using Joins.block_setCell (i := 0) HTp.out (.int .i64 (a0 + am))) _
                · exact block_alloc ((Below.heap_setCell wr ⟨wq.heap.size, 0, none⟩ (.int .i64 (a0 + am)) (w.heap.size + 1) (by show w.heap.size + 1 ≠ wq.heap.size; omega)).trans HT4.out) _
                · exact block_alloc ((Below.heap_setCell wr ⟨wq.heap.size, 0, none⟩ (.int .i64 (a0 + am)) w.heap.size (by show w.heap.size ≠ wq.heap.size; omega)).trans HTb.out) _
                · exact ((Hrd.out.setCell (p := ⟨wq.heap.size, 0, none⟩) (Nat.le_refl _) (.int .i64 (a0 + am))).alloc (by simp; omega) _)
                · exact ((Hbel.out.setCell (p := ⟨wq.heap.size, 0, none⟩) (by show w.heap.size ≤ wq.heap.size; omega) (.int .i64 (a0 + am))).alloc (by simpa using Hbel.out.size) _).drew
              case measure => simp [intOf]; omega
          · have Hs2 : Hid (payStep now ⟨nm, am, 1, un⟩ (a0, a1, a2) = (a0, a1 + am, a2)) := by show _ = _; simp [payStep, hu]
            clear hu
            go_wp2
            go_region
            all_goals
              go_wp2
              go_roundw
              case rel =>
                refine ⟨k + 1, by omega, by go_num, ?_, ?_, ?_, ?_, ?_⟩
                · rw [Hst.out, Hs2.out]
                  exact block_alloc (by simpa using Joins.block_setCell (i := 1) HTp.out (.int .i64 (a1 + am))) _
                · exact block_alloc ((Below.heap_setCell wr ⟨wq.heap.size, 1, none⟩ (.int .i64 (a1 + am)) (w.heap.size + 1) (by show w.heap.size + 1 ≠ wq.heap.size; omega)).trans HT4.out) _
                · exact block_alloc ((Below.heap_setCell wr ⟨wq.heap.size, 1, none⟩ (.int .i64 (a1 + am)) w.heap.size (by show w.heap.size ≠ wq.heap.size; omega)).trans HTb.out) _
                · exact ((Hrd.out.setCell (p := ⟨wq.heap.size, 1, none⟩) (Nat.le_refl _) (.int .i64 (a1 + am))).alloc (by simp; omega) _)
                · exact ((Hbel.out.setCell (p := ⟨wq.heap.size, 1, none⟩) (by show w.heap.size ≤ wq.heap.size; omega) (.int .i64 (a1 + am))).alloc (by simpa using Hbel.out.size) _).drew
              case measure => simp [intOf]; omega
        · have b2 : decide (un < now) = false := decide_eq_false hu
          have Hs2 : Hid (payStep now ⟨nm, am, fr, un⟩ (a0, a1, a2) = (a0, a1, a2 + am)) := by show _ = _; simp [payStep, hu]
          clear hu
          go_wp2
          go_roundw
          case rel =>
            refine ⟨k + 1, by omega, by go_num, ?_, ?_, ?_, ?_, ?_⟩
            · rw [Hst.out, Hs2.out]
              exact block_alloc (by simpa using Joins.block_setCell (i := 2) HTp.out (.int .i64 (a2 + am))) _
            · exact block_alloc ((Below.heap_setCell wr ⟨wq.heap.size, 2, none⟩ (.int .i64 (a2 + am)) (w.heap.size + 1) (by show w.heap.size + 1 ≠ wq.heap.size; omega)).trans HT4.out) _
            · exact block_alloc ((Below.heap_setCell wr ⟨wq.heap.size, 2, none⟩ (.int .i64 (a2 + am)) w.heap.size (by show w.heap.size ≠ wq.heap.size; omega)).trans HTb.out) _
            · exact ((Hrd.out.setCell (p := ⟨wq.heap.size, 2, none⟩) (Nat.le_refl _) (.int .i64 (a2 + am))).alloc (by simp; omega) _)
            · exact ((Hbel.out.setCell (p := ⟨wq.heap.size, 2, none⟩) (by show w.heap.size ≤ wq.heap.size; omega) (.int .i64 (a2 + am))).alloc (by simpa using Hbel.out.size) _)
          case measure => simp [intOf]; omega
      · have hkn : k = n := by omega
        subst hkn
        have hd1 : decide ((k : Int) < (k : Int)) = false := decide_eq_false (by omega)
        have e : p.held.take k = p.held := List.take_of_length_le (by have := Hl.out; omega)
        rw [e] at q0 q1 q2
        rw [e] at HTp
        generalize hpk : paysK now p.held (p.h0, p.h1, 0) = a at *
        obtain ⟨a0, a1, a2⟩ := a
        simp only at q0 q1 q2
        have Hpk := Lib.hid hpk
        have z11 := block_cell hTb 11
        simp at z11
        clear hTp hT4 hbel hbd hlt e hpk hTb
        have T4 := HT4.out
        have r0 := block_cell T4 0; have r1 := block_cell T4 1; have r2 := block_cell T4 2; have rf := block_free T4
        simp at r0 r1 r2
        clear T4
        go_wp2
        refine bodyPost_ret (v := .agg #[.int .i64 a0, .int .i64 a1, .int .i64 a2]) (by simp [results, Try.results26, go_sem, r0, r1, r2]) rfl ⟨by rw [Hr.out], ?_⟩
        exact ((Hbel.out.setCell (by simp) _).setCell (by simp) _).setCell (by simp) _
  · have b1 : (p.check != 0) = true := by simpa using hc
    have Hr : Hid (p.pays now = (0, 0, 0)) := by show _ = _; unfold Pu.pays; rw [if_neg hc]
    clear hc
    go_enter Try.func26, Try.ntmps26
    go_wp2_with fail
    refine (checkr_any p A n c _ H.out).mono ?_
    rintro e w1 ⟨rfl, hb1⟩
    have T4 := block_below HR.out hb1 (by simp)
    have q0 := block_cell T4 0; have q1 := block_cell T4 1; have q2 := block_cell T4 2; have qf := block_free T4
    simp at q0 q1 q2
    have Hw1 := Lib.hid ((below_two w _ _).trans (hb1.mono (by simp; omega)))
    clear hb1 T4
    go_wp2
    refine bodyPost_ret (v := .agg #[.int .i64 0, .int .i64 0, .int .i64 0]) (by simp [results, Try.results26, go_sem, q0, q1, q2]) rfl ⟨by rw [Hr.out], ?_⟩
    exact ((Hw1.out.setCell (by simp) _).setCell (by simp) _).setCell (by simp) _
end Go.Proofs.Ytjiecnoplnaahaa
