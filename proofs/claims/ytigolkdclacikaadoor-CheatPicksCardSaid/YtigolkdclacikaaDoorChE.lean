/- The walk of alike: a plan against the document's. Condition: a bound on how many deeds. -/
import Derived.Test.YtigolkdclacikaaDoorChB
namespace Go.Proofs.YtigolkdclacikaaDoor
open Go.RowKit Go.Lib
set_option maxRecDepth 100000 in
set_option maxHeartbeats 2000000 in
theorem alike_self (A B : Option Addr) (n c d : Nat) (l : List De) (w : World) (hx : Rd w w.heap.size 5 A n (flat l)) (hy : Rd w w.heap.size 5 B n (flat l)) (hn : n ≤ 1000000) :
    Calls Tryd.prog 16 #[.slice A n c, .slice B n d] w fun e w' => e = .returned (.bool true) ∧ Below w.heap.size w w' := by
  have Hl := Lib.hid hx.dlen
  have Hx := Lib.hid hx; have Hy := Lib.hid hy
  clear hx hy
  have b4 : ((n : Int) != (n : Int)) = false := by simp
  go_enter Tryd.func16, Tryd.ntmps16
  go_wp2
  go_loopw [5] (fun i wr => ∃ k : Nat, k ≤ n ∧ i = .int .i64 (k : Int) ∧ Below w.heap.size w wr) (fun i _ => n - (intOf i).toNat)
  case atStart => exact ⟨0, Nat.zero_le _, rfl, Below.refl _ _⟩
  case round =>
    obtain ⟨k, hk, rfl, hbel⟩ := hrel
    have Hbel := Lib.hid hbel
    by_cases hlt : k < n
    · obtain ⟨b, o, rfl, hbB, x0, x1, x2, x3, x4⟩ := (Hx.out.below hbel (Nat.le_refl _)).de hlt
      obtain ⟨b2, o2, rfl, hbB2, y0, y1, y2, y3, y4⟩ := (Hy.out.below hbel (Nat.le_refl _)).de hlt
      have hki0 : (0 : Int) ≤ (k : Int) := by omega
      have hki : (k : Int) < (n : Int) := by omega
      generalize l.getD k default = dd at *
      obtain ⟨t, kd, wh, a, b'⟩ := dd
      simp only at x0 x1 x2 x3 x4 y0 y1 y2 y3 y4
      have e1 : (t != t) = false := by simp
      have e2 : (kd != kd) = false := by simp
      have e3 : (wh != wh) = false := by simp
      have e4 : (a != a) = false := by simp
      have e5 : (b' != b') = false := by simp
      clear hbel
      go_wp2
      go_quiet (fail)
      go_wp2
      go_roundw
      case rel => exact ⟨k + 1, by omega, by go_num, below_drewN Hbel.out _⟩
      case measure => simp [intOf]; omega
    · have hkn : n ≤ k := by omega
      clear hlt hbel
      go_wp2
      go_ret
      exact ⟨rfl, Hbel.out⟩
end Go.Proofs.YtigolkdclacikaaDoor
