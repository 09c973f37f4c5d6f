/- The walk of the statement CodeWithin: an instruction that may be touches words alone that there are, and goes on within the instructions. Condition: the table of operations reads as laid. -/
import Derived.Test.YtecolkpnllikaaaDoorWithinPlain
import Derived.Test.YtecolkpnllikaaaDoorCodeWays
namespace Go.Proofs.YtecolkpnllikaaaDoor
open Go.RowKit Go.Lib
set_option maxRecDepth 100000 in
set_option maxHeartbeats 4000000 in
theorem within_any (op a b c sz wd mo at_ : Int) (w : World) (hT : OpTab w) (s0 : 0 ≤ sz) (s1 : sz ≤ 65535) (d0 : 0 ≤ wd) (d1 : wd ≤ 65535) (m0 : 0 ≤ mo) (m1 : mo ≤ 65535) (t0 : 0 ≤ at_) (t1 : at_ ≤ 65535) :
    Calls Tryd.prog 5 #[.agg #[.int .i64 op, .int .i64 a, .int .i64 b, .int .i64 c], .int .u16 sz, .int .u16 wd, .int .u16 mo, .int .u16 at_] w fun e w' => e = .returned (.bool true) ∧ Below w.heap.size w w' := by
  have HI0 := Lib.hid (WInv.start (op := op) (a := a) (b := b) (c := c) hT)
  clear hT
  go_enter Tryd.func5, Tryd.ntmps5
  go_wp2_with fail
  refine (known_any _ HI0.out.tab).mono ?_
  rintro e w1 ⟨rfl, hb1⟩
  have HI1 := Lib.hid (HI0.out.below hb1)
  clear hb1
  have cs := HI1.out.all
  go_wp2_with fail
  refine (right_any _ _ _ _ _ _ _ HI1.out.tab).mono ?_
  rintro e w2 ⟨rfl, hb2⟩
  have HI2 := Lib.hid (HI1.out.below hb2)
  clear hb2 cs
  by_cases hR' : rightB op a b c sz wd = false
  · rw [hR']
    clear hR'
    go_wp2_with (go_at_call 10; refine (known_any _ HI2.out.tab).mono ?_; rintro e w9 ⟨rfl, hb9⟩; have HI9 := Lib.hid (HI2.out.below hb9); clear hb9)
    go_ret
    exact ⟨rfl, HI9.out.bel⟩
  have hR : rightB op a b c sz wd = true := by simpa using hR'
  have HR := Lib.hid hR
  rw [hR]
  clear hR hR'
  by_cases hz : sz = 0
  · subst hz
    go_wp2_with (go_at_call 10; refine (known_any _ HI2.out.tab).mono ?_; rintro e w9 ⟨rfl, hb9⟩; have HI9 := Lib.hid (HI2.out.below hb9); clear hb9)
    go_ret
    exact ⟨rfl, HI9.out.bel⟩
  have hzb : (sz == 0) = false := by simpa using hz
  have s2 : 1 ≤ sz := by omega
  clear hz
  have cs := HI2.out.all
  go_wp2_with fail
  refine (reads_any _ _ _ _ _ HI2.out.tab).mono ?_
  rintro e w3 ⟨A3, n3, c3, rfl, hr3, hn3, hb3⟩
  have HI3 := Lib.hid (HI2.out.below hb3)
  have hn3' : n3 ≤ 3 := by rw [hn3]; exact rdC_le3 _ _ _ _
  have Hr3 := Lib.hid hr3
  have Hn3 := Lib.hid hn3
  clear hb3 hr3 hn3 cs
  go_wp2
  go_loop [43] (fun i => ∃ k : Nat, k ≤ n3 ∧ i = .int .i64 k) (fun i => n3 - (intOf i).toNat)
  case atStart => exact ⟨0, Nat.zero_le _, rfl⟩
  case round =>
    obtain ⟨k, hk, rfl⟩ := hrel
    by_cases hlt : k < n3
    · obtain ⟨bk, o, u, rfl, hbB, hu, hcell⟩ := Hr3.out.at_ hlt (show 0 < 1 by omega)
      simp only [Nat.mul_one, Nat.add_zero] at hu hcell
      obtain rfl := ints_at hu
      have hin := reads_within HR.out _ (Nat.le_refl _) _ (getD_mem (by rw [← Hn3.out]; exact hlt : k < (rdC op a b c (hasOf op).size).length))
      clear hu
      generalize (rdC op a b c (hasOf op).size).getD k 0 = x at *
      have x0 : decide (x < 0) = false := decide_eq_false (by omega)
      have x1 : decide (wd ≤ x) = false := decide_eq_false (by omega)
      clear hin
      have hi0 : (0 : Int) ≤ (k : Int) := by omega
      have hi1 : (k : Int) < (n3 : Int) := by omega
      go_wp2
      go_round
      case rel => exact ⟨k + 1, by omega, by go_num⟩
      case measure => simp [intOf]; omega
    · have cs := HI3.out.all
      go_wp2_with fail
      refine (writes_any _ _ _ _ _ HI3.out.tab).mono ?_
      rintro e w4 ⟨rfl, hb4⟩
      have HI4 := Lib.hid (HI3.out.below hb4)
      have hwr := writes_within HR.out d0
      generalize writesI op a = y at *
      have y0 : decide (y < -1) = false := decide_eq_false (by omega)
      have y1 : decide (wd ≤ y) = false := decide_eq_false (by omega)
      clear hb4 cs hwr
      have cs := HI4.out.all
      have e0 : 0 ≤ at_ % sz := Int.emod_nonneg _ (by omega)
      have e1 : at_ % sz < sz := Int.emod_lt_of_pos _ (by omega)
      go_wp2_with fail
      refine (next_any _ _ _ _ _ _).mono ?_
      rintro e w5 ⟨A5, n5, c5, rfl, hr5, hn5, hb5⟩
      have HI5 := Lib.hid (HI4.out.below hb5)
      have hn5' : n5 ≤ 2 := by rw [hn5]; exact nextL_le op a _
      have Hr5 := Lib.hid hr5
      have Hn5 := Lib.hid hn5
      clear hb5 hr5 hn5 cs
      go_wp2
      go_loop [73] (fun i => ∃ k : Nat, k ≤ n5 ∧ i = .int .i64 k) (fun i => n5 - (intOf i).toNat)
      case atStart => exact ⟨0, Nat.zero_le _, rfl⟩
      case round =>
        obtain ⟨j, hj, rfl⟩ := hrel
        by_cases hlt5 : j < n5
        · obtain ⟨bk, o, u, rfl, hbB, hu, hcell⟩ := Hr5.out.at_ hlt5 (show 0 < 1 by omega)
          simp only [Nat.mul_one, Nat.add_zero] at hu hcell
          obtain rfl := ints_at hu
          have hin := next_within HR.out e0 e1 s1 _ (getD_mem (by rw [← Hn5.out]; exact hlt5 : j < (nextL op a (at_ % sz)).length))
          clear hu
          generalize (nextL op a (at_ % sz)).getD j 0 = p at *
          generalize at_ % sz = q at *
          have x0 : decide (p < 0) = false := decide_eq_false (by omega)
          have x1 : decide (sz < p) = false := decide_eq_false (by omega)
          have hi0 : (0 : Int) ≤ (j : Int) := by omega
          have hi1 : (j : Int) < (n5 : Int) := by omega
          by_cases hp : p = sz
          · have hq := hin.2.2 hp
            have x2 : (p == sz) = true := by simpa using hp
            have x3 : (q != sz - 1) = false := by simpa using hq
            clear hin hp hq
            go_wp2
            go_round
            case rel => exact ⟨j + 1, by omega, by go_num⟩
            case measure => simp [intOf]; omega
          · have x2 : (p == sz) = false := by simpa using hp
            clear hin hp
            go_wp2
            go_round
            case rel => exact ⟨j + 1, by omega, by go_num⟩
            case measure => simp [intOf]; omega
        · have cs := HI5.out.all
          have hc := next_count (a := a) (at_ := at_ % sz) (by have := HR.out; simp only [rightB, Bool.and_eq_true] at this; exact this.1.1 : isB op = true)
          rw [← Hn5.out] at hc
          have hR1 := right_mono (size' := sz + mo) (words' := wd) (by omega) (Int.le_refl _) HR.out
          have hR2 := right_mono (size' := sz) (words' := wd + mo) (Int.le_refl _) (by omega) HR.out
          have HR1 := Lib.hid hR1; have HR2 := Lib.hid hR2
          have l2 : decide ((n5 : Int) ≤ 2) = true := decide_eq_true (by omega)
          have q1 : (((n5 : Int) == 0) == (op == 0)) = true := by
            have h1 : ((n5 : Int) == 0) = decide (n5 = 0) := by rw [Bool.eq_iff_iff]; simp
            have h2 : (op == 0) = decide (op = 0) := by rw [Bool.eq_iff_iff]; simp
            rw [h1, h2, hc]; simp
          clear hc hR1 hR2
          go_wp2_with fail
          refine (right_any _ _ _ _ _ _ _ HI5.out.tab).mono ?_
          rintro e w6 ⟨rfl, hb6⟩
          rw [HR1.out]
          have HI6 := Lib.hid (HI5.out.below hb6)
          clear hb6 cs
          have cs := HI6.out.all
          go_wp2_with fail
          refine (right_any _ _ _ _ _ _ _ HI6.out.tab).mono ?_
          rintro e w7 ⟨rfl, hb7⟩
          rw [HR2.out]
          have HI7 := Lib.hid (HI6.out.below hb7)
          clear hb7 cs
          go_wp2
          go_ret
          exact ⟨rfl, HI7.out.bel⟩
end Go.Proofs.YtecolkpnllikaaaDoor
