/- The walks of layer 1's PutInt, and of the reference's Fold. Conditions: bounds. -/
import Derived.Test.YthhiookcknnmdaaGreatJoinA
import Derived.Laws.Bits64b
namespace Go.Proofs.YthhiookcknnmdaaGreat
open Go.RowKit Go.Lib

def foldN (x : Int) : Nat := if x < 0 then (-2 * x - 1).toNat else (2 * x).toNat
theorem foldN_neg {x : Int} (h : x < 0) : (foldN x : Int) = -2 * x - 1 := by unfold foldN; rw [if_pos h]; omega
theorem foldN_pos {x : Int} (h : 0 ≤ x) : (foldN x : Int) = 2 * x := by unfold foldN; rw [if_neg (by omega)]; omega
theorem foldN_lt {x : Int} (h : -9223372036854775808 ≤ x) (h2 : x ≤ 9223372036854775807) : foldN x < 18446744073709551616 := by unfold foldN; split <;> omega
theorem not_i64 {x : Int} (h : x < 0) (h2 : -9223372036854775808 ≤ x) : bits .xor .i64 (-1) x = -x - 1 := by
 show IntKind.i64.wrap ((BitVec.ofInt 64 (-1) ^^^ BitVec.ofInt 64 x).toNat : Int) = _
 have h1 : BitVec.ofInt 64 (-1) = BitVec.allOnes 64 := by decide
 have h3 : (BitVec.ofInt 64 x).toNat = (x + 18446744073709551616).toNat := by
  rw [BitVec.toNat_ofInt]; congr 1; omega
 rw [h1, BitVec.allOnes_xor, BitVec.toNat_not, h3]
 simp [IntKind.wrap, IntKind.bits, IntKind.signed]
 omega
theorem or_one {k : Nat} (h : 2 * k < 18446744073709551616) : bits .or .u64 (2 * (k : Int)) 1 = 2 * (k : Int) + 1 := by
 have := bits_or_u64_nat (2 * k) 1 h (by omega)
 have e : 2 * k ||| 1 = 2 * k + 1 := by
  have := Nat.two_pow_add_eq_or_of_lt (i := 1) (b := 1) (by omega) k
  simpa using this.symm
 rw [e] at this
 simpa using this
theorem putArg {x : Int} (h : x < 0) (h2 : -9223372036854775808 ≤ x) : bits BinOp.or IntKind.u64 (IntKind.u64.wrap (IntKind.u64.wrap (bits BinOp.xor IntKind.i64 (-1) x) * 2)) 1 = (foldN x : Int) := by
 rw [not_i64 h h2]
 have e1 : IntKind.u64.wrap (-x - 1) = -x - 1 := by rw [IntKind.wrap_u64]; omega
 have e2 : IntKind.u64.wrap ((-x - 1) * 2) = 2 * (((-x - 1).toNat : Nat) : Int) := by rw [IntKind.wrap_u64]; omega
 rw [e1, e2, or_one (by omega), foldN_neg h]
 omega

set_option maxRecDepth 100000 in
theorem putInt_any (A : Option Addr) (n c : Nat) (x : Int) (l : List Nat) (w : World) (hr : Rd w w.heap.size 1 A n (bv l)) (hn : n ≤ 900000000) (h2 : -9223372036854775808 ≤ x) (h3 : x ≤ 9223372036854775807) :
  Calls Tryz.prog 163 #[.slice A n c, .int .i64 x] w (GivesB w (l ++ encN (foldN x))) := by
 have Hr := Lib.hid hr; clear hr
 have Hf := Lib.hid (foldN_lt h2 h3)
 by_cases h : x < 0
 ·have Hp := Lib.hid (putArg h h2)
  go_enter Tryz.func163, Tryz.ntmps163
  go_wp2_with fail
  rw [Hp.out]
  refine (putNum_any A n c (foldN x) l w Hr.out hn Hf.out).mono ?_
  rintro e w1 ⟨A1, n1, c1, rfl, hown1, hn1, hb1⟩
  have Hg : Hid (GivesB w (l ++ encN (foldN x)) (.returned (.slice A1 n1 c1)) w1) := ⟨A1, n1, c1, rfl, hown1, hn1, hb1⟩
  clear hown1 hn1 hb1
  go_wp2
  go_ret
  exact Hg.out
 ·have h0 : 0 ≤ x := by omega
  have Hp : Hid (x * 2 = (foldN x : Int)) := by show _ = _; rw [foldN_pos h0]; omega
  have hd : decide (x < 0) = false := decide_eq_false h
  clear h
  go_enter Tryz.func163, Tryz.ntmps163
  go_wp2_with fail
  rw [Hp.out]
  refine (putNum_any A n c (foldN x) l w Hr.out hn Hf.out).mono ?_
  rintro e w1 ⟨A1, n1, c1, rfl, hown1, hn1, hb1⟩
  have Hg : Hid (GivesB w (l ++ encN (foldN x)) (.returned (.slice A1 n1 c1)) w1) := ⟨A1, n1, c1, rfl, hown1, hn1, hb1⟩
  clear hown1 hn1 hb1
  go_wp2
  go_ret
  exact Hg.out
end Go.Proofs.YthhiookcknnmdaaGreat
