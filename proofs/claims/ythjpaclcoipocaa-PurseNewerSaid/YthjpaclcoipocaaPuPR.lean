/- The walks of the reference's Total and Pays of a purse. Conditions: bounds. -/
import Derived.Test.YthjpaclcoipocaaPuD
import Derived.Test.YthjpaclcoipocaaPuV
import Derived.Deep.RegionLaw
namespace Go.Proofs.Ythjpaclcoipocaa
open Go.RowKit Go.Lib


set_option maxRecDepth 100000 in
set_option maxHeartbeats 1000000 in
theorem totalr_any (p : Pu) (A : Option Addr) (n c : Nat) (w : World) (h : PuV.At p A n c w) :
    Calls Try.prog 12 #[.agg #[.int .u8 (p.nm.x0 : Int), .int .u8 (p.nm.x1 : Int), .int .u8 (p.nm.x2 : Int), .int .u8 (p.nm.x3 : Int), .int .u8 (p.nm.x4 : Int), .int .u8 (p.nm.x5 : Int), .int .u8 (p.nm.x6 : Int), .int .u8 (p.nm.x7 : Int), .int .i64 p.no, .int .i64 p.h0, .int .i64 p.h1, .slice A n c]] w fun e w' => e = .returned (.int .i64 p.total) ∧ Below w.heap.size w w' := by
  have H := Lib.hid (h.up (below_one w (.cells #[.int .u8 (p.nm.x0 : Int), .int .u8 (p.nm.x1 : Int), .int .u8 (p.nm.x2 : Int), .int .u8 (p.nm.x3 : Int), .int .u8 (p.nm.x4 : Int), .int .u8 (p.nm.x5 : Int), .int .u8 (p.nm.x6 : Int), .int .u8 (p.nm.x7 : Int), .int .i64 p.no, .int .i64 p.h0, .int .i64 p.h1, .slice A n c] 26)))
  have HT := Lib.hid (heap_alloc_new w (.cells #[.int .u8 (p.nm.x0 : Int), .int .u8 (p.nm.x1 : Int), .int .u8 (p.nm.x2 : Int), .int .u8 (p.nm.x3 : Int), .int .u8 (p.nm.x4 : Int), .int .u8 (p.nm.x5 : Int), .int .u8 (p.nm.x6 : Int), .int .u8 (p.nm.x7 : Int), .int .i64 p.no, .int .i64 p.h0, .int .i64 p.h1, .slice A n c] 26))
  have Hl := Lib.hid h.rd.hlen
  clear h
  by_cases hc : p.check = 0
  · have b1 : (p.check != 0) = false := by simpa using hc
    have Hr : Hid (p.total = p.sum) := by show _ = _; unfold Pu.total; rw [if_pos hc]
    obtain ⟨_, k1, k2, k3, k4, _⟩ := check_ok hc
    have Hok := Lib.hid (held_am k4)
    have hn16 : n ≤ 16 := by rw [← Hl.out]; exact k3
    obtain ⟨p0, p1⟩ := k1
    obtain ⟨p2, p3⟩ := k2
    clear hc k3 k4
    go_enter Try.func12, Try.ntmps12
    go_wp2_with fail
    refine (checkr_any p A n c _ H.out).mono ?_
    rintro e w1 ⟨rfl, hb1⟩
    obtain ⟨z0, z1, z2, z3, z4, z5, z6, z7, z8, z9, z10, z11⟩ := PBox.all (block_below HT.out hb1 (by simp))
    have H1 := Lib.hid (H.out.up hb1)
    have Hw1 := Lib.hid ((below_one w _).trans (hb1.mono (by simp)))
    clear hb1
    go_wp2
    go_loop [3, 4] (fun s i => ∃ k : Nat, k ≤ n ∧ i = .int .i64 (k : Int) ∧ s = .int .i64 (p.h0 + p.h1 + sumL (p.held.take k))) (fun _ i => n - (intOf i).toNat)
    case atStart => exact ⟨0, by omega, rfl, by simp [sumL]⟩
    case round =>
      obtain ⟨k, hk, rfl, rfl⟩ := hrel
      have hsb := sumL_bound Hok.out k (by have := Hl.out; omega)
      obtain ⟨s0, s1⟩ := hsb
      by_cases hlt : k < n
      · obtain ⟨b, o, rfl, hbB, x0, x1, x2, x3, x4, x5, x6, x7, x8, x9, x10⟩ := H1.out.rd.hd hlt
        have hok := Hok.out k (by have := Hl.out; omega)
        have Hst := Lib.hid (sumL_take (l := p.held) (k := k) (by have := Hl.out; omega))
        obtain ⟨k0, k1⟩ := hok
        generalize p.held.getD k default = h at *
        generalize sumL (p.held.take k) = s at *
        have hd1 : decide ((k : Int) < (n : Int)) = true := decide_eq_true (by omega)
        have hi0 : (0 : Int) ≤ (k : Int) := by omega
        have hi1 : (k : Int) < (n : Int) := by omega
        have hki : (k : Int) ≤ 15 := by omega
        go_wp2
        go_round
        case rel => exact ⟨k + 1, by omega, by go_num, by rw [Hst.out]; first | rfl | (congr 1; omega)⟩
        case measure => simp [intOf]; omega
      · have hkn : k = n := by omega
        subst hkn
        have hd1 : decide ((k : Int) < (k : Int)) = false := decide_eq_false (by omega)
        have e : p.held.take k = p.held := List.take_of_length_le (by have := Hl.out; omega)
        have He := Lib.hid e
        clear hlt e
        go_wp2
        go_ret
        exact ⟨ret_int (by rw [He.out, Hr.out]; rfl), Hw1.out⟩
  · have b1 : (p.check != 0) = true := by simpa using hc
    have Hr : Hid (p.total = 0) := by show _ = _; unfold Pu.total; rw [if_neg hc]
    clear hc
    go_enter Try.func12, Try.ntmps12
    go_wp2_with fail
    refine (checkr_any p A n c _ H.out).mono ?_
    rintro e w1 ⟨rfl, hb1⟩
    have Hw1 := Lib.hid ((below_one w _).trans (hb1.mono (by simp)))
    clear hb1
    go_wp2
    go_ret
    exact ⟨by rw [Hr.out]; rfl, Hw1.out⟩
end Go.Proofs.Ythjpaclcoipocaa
