/- How many levels a tree has: the walks of bits.Len64, bits.Len, Height. Condition: at most 256 leaves. -/
import Derived.Test.YthjpaclcoipocaaGreatKeR
import Derived.Test.YthjpaclcoipocaaGreatKeH
import Derived.Test.YthjpaclcoipocaaGreatInv
import Derived.Lib.BitFns
import Derived.Lib.Strings
import Derived.Lib.Slices
import Derived.Lib.Small
import Derived.Lib.Walk
namespace Go.Proofs.YthjpaclcoipocaaGreat
open Go.RowKit Go.Lib
theorem len8_sz : len8tab.size = 256 := by decide +kernel
theorem tab8 : ∀ n : Fin 256, (len8tab[n.val]'(by rw [len8_sz]; exact n.isLt)).toNat = Lib.bitLen n.val := by decide +kernel
set_option maxHeartbeats 4000000 in
set_option maxRecDepth 100000 in
theorem len64_any (x : Nat) (w : World) (hx : x < 256) : Calls Tryz.prog 62 #[.int .u64 (x : Int)] w fun e w' => e = .returned (.int .i64 (Lib.bitLen x : Int)) ∧ w' = w := by
  have d1 : decide ((4294967296 : Int) ≤ (x : Int)) = false := decide_eq_false (by omega)
  have d2 : decide ((65536 : Int) ≤ (x : Int)) = false := decide_eq_false (by omega)
  have d3 : decide ((256 : Int) ≤ (x : Int)) = false := decide_eq_false (by omega)
  go_enter Tryz.func62, Tryz.ntmps62
  go_wp2
  go_ret
  refine ⟨congrArg Ending.returned (congrArg (Value.int IntKind.i64) ?_), rfl⟩
  have e := tab8 ⟨x, hx⟩
  have l := Lib.bitLen_le8 ⟨x, hx⟩
  simp only at e l
  rw [e]
  simp only [wrap64]
  omega
set_option maxHeartbeats 4000000 in
set_option maxRecDepth 100000 in
theorem len_any (x : Nat) (w : World) (hx : x < 256) : Calls Tryz.prog 52 #[.int .u64 (x : Int)] w fun e w' => e = .returned (.int .i64 (Lib.bitLen x : Int)) ∧ w' = w := by
  go_enter Tryz.func52, Tryz.ntmps52
  go_wp2_with fail
  refine (len64_any x w hx).mono ?_
  rintro e w' ⟨rfl, rfl⟩
  go_wp2
  go_ret
  exact ⟨rfl, rfl⟩
theorem bitLen_pow {h : Nat} (hh : h ≤ 8) : Lib.bitLen (2 ^ h - 1) = h := by
  have : h = 0 ∨ h = 1 ∨ h = 2 ∨ h = 3 ∨ h = 4 ∨ h = 5 ∨ h = 6 ∨ h = 7 ∨ h = 8 := by omega
  rcases this with rfl | rfl | rfl | rfl | rfl | rfl | rfl | rfl | rfl <;> decide
theorem pow_le8 {h : Nat} (hh : h ≤ 8) : 1 ≤ 2 ^ h ∧ 2 ^ h ≤ 256 := by
  refine ⟨Nat.one_le_two_pow, ?_⟩
  exact Nat.pow_le_pow_right (by decide) hh
set_option maxHeartbeats 4000000 in
set_option maxRecDepth 100000 in
theorem height_any (h n : Nat) (w : World) (hn : n = 2 ^ h) (hh : h ≤ 8) : Calls Tryz.prog 36 #[.int .i64 (n : Int)] w fun e w' => e = .returned (.int .i64 (h : Int)) ∧ w' = w := by
  have hb := pow_le8 hh
  have hl := bitLen_pow hh
  rw [← hn] at hb hl
  have d1 : decide ((n : Int) < 1) = false := decide_eq_false (by omega)
  have d2 : decide ((4096 : Int) < (n : Int)) = false := decide_eq_false (by omega)
  have hc : (n : Int) - 1 = ((n - 1 : Nat) : Int) := by omega
  have hw : IntKind.u64.wrap ((n - 1 : Nat) : Int) = ((n - 1 : Nat) : Int) := by rw [IntKind.wrap_u64]; omega
  have hw0 : IntKind.u64.wrap ((n : Int) - 1) = ((n - 1 : Nat) : Int) := by rw [hc, hw]
  have Hl := Lib.hid hl
  clear hl hn
  go_enter Tryz.func36, Tryz.ntmps36
  go_wp2_with fail
  refine (len_any (n - 1) w (by omega)).mono ?_
  rintro e w' ⟨rfl, rfl⟩
  rw [Hl.out]
  go_wp2
  go_ret
  exact ⟨rfl, rfl⟩
end Go.Proofs.YthjpaclcoipocaaGreat
