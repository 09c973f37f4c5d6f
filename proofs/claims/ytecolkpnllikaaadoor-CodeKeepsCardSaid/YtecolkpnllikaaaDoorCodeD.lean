/- The walk of slices.Contains over numbers, as layer 14 uses it. Condition: the slice reads as the list; its length is bounded. -/
import Derived.Test.YtecolkpnllikaaaDoorCodeC2
namespace Go.Proofs.YtecolkpnllikaaaDoor
open Go.RowKit

theorem getD_mem {xs : List Int} {k : Nat} (h : k < xs.length) : xs.getD k 0 ∈ xs := by
  rw [List.getD_eq_getElem?_getD, List.getElem?_eq_getElem h]; exact List.getElem_mem h
theorem take_getD {xs : List Int} {k : Nat} (h : k < xs.length) : xs.take (k + 1) = xs.take k ++ [xs.getD k 0] := by
  rw [List.take_succ_eq_append_getElem h, List.getD_eq_getElem?_getD, List.getElem?_eq_getElem h]; rfl
def memB (xs : List Int) (x : Int) : Bool := decide (x ∈ xs)
set_option maxHeartbeats 400000 in
theorem index_any (A : Option Addr) (n c : Nat) (xs : List Int) (x : Int) (w : World) (hx : Rd w w.heap.size 1 A n (ints xs)) (hn : n ≤ 281474976710656) :
    Calls Tryd.prog 61 #[.slice A n c, .int .i64 x] w fun e w' => ∃ r : Int, e = .returned (.int .i64 r) ∧ (0 ≤ r ↔ x ∈ xs) ∧ w = w' := by
  have lx : xs.length = n := by have := hx.1; rw [ints_len] at this; omega
  have Hx := Lib.hid hx; have Lx := Lib.hid lx
  clear hx lx
  go_enter Tryd.func61, Tryd.ntmps61
  go_wp2
  go_loop [8] (fun i => ∃ k : Nat, k ≤ n ∧ i = .int .i64 k ∧ x ∉ xs.take k) (fun i => n - (intOf i).toNat)
  case atStart => exact ⟨0, Nat.zero_le _, rfl, by simp⟩
  case round =>
    obtain ⟨k, hk, rfl, ht⟩ := hrel
    have Ht := Lib.hid ht; clear ht
    by_cases hlt : k < n
    · obtain ⟨b, o, u, rfl, hbB, hu, hcell⟩ := Hx.out.at_ hlt (show 0 < 1 by omega)
      simp only [Nat.mul_one, Nat.add_zero] at hu hcell
      obtain rfl := ints_at hu
      clear hu
      generalize hx1 : xs.getD k 0 = y at *
      have Hx1 := Lib.hid hx1; clear hx1
      by_cases hxy : x = y
      · have hbb : (x == y) = true := by simp [hxy]
        have Hxy := Lib.hid hxy; clear hxy
        go_wp2
        go_ret
        exact ⟨k, rfl, ⟨fun _ => by rw [Hxy.out, ← Hx1.out]; exact getD_mem (by have := Lx.out; omega), fun _ => by omega⟩, rfl⟩
      · have hbb : (x == y) = false := by simp [hxy]
        have Hxy := Lib.hid hxy; clear hxy
        go_wp2
        go_round
        case rel => exact ⟨k + 1, by omega, by go_num, by rw [take_getD (by have := Lx.out; omega), Hx1.out]; have := Ht.out; have := Hxy.out; simp_all⟩
        case measure => simp [intOf]; omega
    · have hkn : k = n := by omega
      go_wp2
      go_ret
      exact ⟨-1, rfl, ⟨fun h => by omega, fun h => by have h1 := Ht.out; have := Lx.out; rw [List.take_of_length_le (by omega)] at h1; exact absurd h h1⟩, rfl⟩
theorem contains_any (A : Option Addr) (n c : Nat) (xs : List Int) (x : Int) (w : World) (hx : Rd w w.heap.size 1 A n (ints xs)) (hn : n ≤ 281474976710656) :
    Calls Tryd.prog 35 #[.slice A n c, .int .i64 x] w fun e w' => e = .returned (.bool (memB xs x)) ∧ w = w' := by
  go_enter Tryd.func35, Tryd.ntmps35
  go_wp2_with (go_at_call 61; refine (index_any _ _ _ xs _ _ hx hn).mono ?_; rintro e w1 ⟨r, rfl, hr, rfl⟩)
  go_ret
  exact ⟨rfl, rfl⟩
end Go.Proofs.YtecolkpnllikaaaDoor
