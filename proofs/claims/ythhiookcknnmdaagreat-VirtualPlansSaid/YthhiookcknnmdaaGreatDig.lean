/- The walks of digests to numbers and back, the program's and the reference's. Condition: none. -/
import Derived.Test.YthhiookcknnmdaaGreatProg
import Derived.Test.YthhiookcknnmdaaGreatWords
import Derived.Test.YthhiookcknnmdaaGreatJoinX
import Derived.WalkLawsBesides
import Derived.Laws.BitsAllLaws
import Derived.Laws.ShiftsVarLaws
import Derived.Laws.Bits64b
namespace Go.Proofs.YthhiookcknnmdaaGreat
open Go.RowKit Go.Lib

theorem orStep {a x k : Nat} (ha : a < 2 ^ k) (hx : x * 2 ^ k + a < 18446744073709551616) : bits .or .u64 (a : Int) ((x * 2 ^ k : Nat) : Int) = ((a + x * 2 ^ k : Nat) : Int) := by
 rw [bits_or_u64_nat a _ (by omega) (by omega)]
 congr 1
 have := Nat.two_pow_add_eq_or_of_lt (i := k) (b := a) ha x
 rw [Nat.or_comm, Nat.mul_comm x, ← this]; omega
theorem or0 {x : Nat} (hx : x < 256) : bits .or .u64 0 (x : Int) = (x : Int) := by
 have := bits_or_u64_nat 0 x (by omega) (by omega)
 simpa using this
theorem ors {x0 x1 x2 x3 x4 x5 x6 x7 : Nat} (h0 : x0 < 256) (h1 : x1 < 256) (h2 : x2 < 256) (h3 : x3 < 256) (h4 : x4 < 256) (h5 : x5 < 256) (h6 : x6 < 256) (h7 : x7 < 256) :
  bits .or .u64 (bits .or .u64 (bits .or .u64 (bits .or .u64 (bits .or .u64 (bits .or .u64 (bits .or .u64 (bits .or .u64 0 (x0 : Int)) ((x1 : Int) * 256)) ((x2 : Int) * 65536)) ((x3 : Int) * 16777216)) ((x4 : Int) * 4294967296)) ((x5 : Int) * 1099511627776)) ((x6 : Int) * 281474976710656)) ((x7 : Int) * 72057594037927936) = ((D8.mk x0 x1 x2 x3 x4 x5 x6 x7).num : Int) := by
 have e1 : bits .or .u64 (x0 : Int) ((x1 : Int) * 256) = ((x0 + x1 * 256 : Nat) : Int) := by
  have := orStep (a := x0) (x := x1) (k := 8) (by omega) (by omega)
  simpa using this
 have e2 : bits .or .u64 ((x0 + x1 * 256 : Nat) : Int) ((x2 : Int) * 65536) = ((x0 + x1 * 256 + x2 * 65536 : Nat) : Int) := by
  have := orStep (a := x0 + x1 * 256) (x := x2) (k := 16) (by omega) (by omega)
  simpa using this
 have e3 : bits .or .u64 ((x0 + x1 * 256 + x2 * 65536 : Nat) : Int) ((x3 : Int) * 16777216) = ((x0 + x1 * 256 + x2 * 65536 + x3 * 16777216 : Nat) : Int) := by
  have := orStep (a := x0 + x1 * 256 + x2 * 65536) (x := x3) (k := 24) (by omega) (by omega)
  simpa using this
 have e4 : bits .or .u64 ((x0 + x1 * 256 + x2 * 65536 + x3 * 16777216 : Nat) : Int) ((x4 : Int) * 4294967296) = ((x0 + x1 * 256 + x2 * 65536 + x3 * 16777216 + x4 * 4294967296 : Nat) : Int) := by
  have := orStep (a := x0 + x1 * 256 + x2 * 65536 + x3 * 16777216) (x := x4) (k := 32) (by omega) (by omega)
  simpa using this
 have e5 : bits .or .u64 ((x0 + x1 * 256 + x2 * 65536 + x3 * 16777216 + x4 * 4294967296 : Nat) : Int) ((x5 : Int) * 1099511627776) = ((x0 + x1 * 256 + x2 * 65536 + x3 * 16777216 + x4 * 4294967296 + x5 * 1099511627776 : Nat) : Int) := by
  have := orStep (a := x0 + x1 * 256 + x2 * 65536 + x3 * 16777216 + x4 * 4294967296) (x := x5) (k := 40) (by omega) (by omega)
  simpa using this
 have e6 : bits .or .u64 ((x0 + x1 * 256 + x2 * 65536 + x3 * 16777216 + x4 * 4294967296 + x5 * 1099511627776 : Nat) : Int) ((x6 : Int) * 281474976710656) = ((x0 + x1 * 256 + x2 * 65536 + x3 * 16777216 + x4 * 4294967296 + x5 * 1099511627776 + x6 * 281474976710656 : Nat) : Int) := by
  have := orStep (a := x0 + x1 * 256 + x2 * 65536 + x3 * 16777216 + x4 * 4294967296 + x5 * 1099511627776) (x := x6) (k := 48) (by omega) (by omega)
  simpa using this
 have e7 : bits .or .u64 ((x0 + x1 * 256 + x2 * 65536 + x3 * 16777216 + x4 * 4294967296 + x5 * 1099511627776 + x6 * 281474976710656 : Nat) : Int) ((x7 : Int) * 72057594037927936) = ((x0 + x1 * 256 + x2 * 65536 + x3 * 16777216 + x4 * 4294967296 + x5 * 1099511627776 + x6 * 281474976710656 + x7 * 72057594037927936 : Nat) : Int) := by
  have := orStep (a := x0 + x1 * 256 + x2 * 65536 + x3 * 16777216 + x4 * 4294967296 + x5 * 1099511627776 + x6 * 281474976710656) (x := x7) (k := 56) (by omega) (by omega)
  simpa using this
 rw [or0 h0, e1, e2, e3, e4, e5, e6, e7]
 unfold D8.num
 simp only
 omega
set_option maxRecDepth 100000 in
set_option maxHeartbeats 1000000 in
theorem hnum_any (d : D8) (w : World) (h : d.ok) :
  Calls Tryz.prog 88 #[.agg #[.int .u8 d.x0, .int .u8 d.x1, .int .u8 d.x2, .int .u8 d.x3, .int .u8 d.x4, .int .u8 d.x5, .int .u8 d.x6, .int .u8 d.x7]] w fun e w' => e = .returned (.int .u64 d.num) ∧ Below w.heap.size w w' := by
 have i0 : ∀ w, (Instr.index 27 (.agg #[.int .u8 d.x0, .int .u8 d.x1, .int .u8 d.x2, .int .u8 d.x3, .int .u8 d.x4, .int .u8 d.x5, .int .u8 d.x6, .int .u8 d.x7]) (.int .i64 0)).run Tryz.prog w = .ok (.int .u8 d.x0) w := fun _ => by kernel_rfl
 have i1 : ∀ w, (Instr.index 27 (.agg #[.int .u8 d.x0, .int .u8 d.x1, .int .u8 d.x2, .int .u8 d.x3, .int .u8 d.x4, .int .u8 d.x5, .int .u8 d.x6, .int .u8 d.x7]) (.int .i64 1)).run Tryz.prog w = .ok (.int .u8 d.x1) w := fun _ => by kernel_rfl
 have i2 : ∀ w, (Instr.index 27 (.agg #[.int .u8 d.x0, .int .u8 d.x1, .int .u8 d.x2, .int .u8 d.x3, .int .u8 d.x4, .int .u8 d.x5, .int .u8 d.x6, .int .u8 d.x7]) (.int .i64 2)).run Tryz.prog w = .ok (.int .u8 d.x2) w := fun _ => by kernel_rfl
 have i3 : ∀ w, (Instr.index 27 (.agg #[.int .u8 d.x0, .int .u8 d.x1, .int .u8 d.x2, .int .u8 d.x3, .int .u8 d.x4, .int .u8 d.x5, .int .u8 d.x6, .int .u8 d.x7]) (.int .i64 3)).run Tryz.prog w = .ok (.int .u8 d.x3) w := fun _ => by kernel_rfl
 have i4 : ∀ w, (Instr.index 27 (.agg #[.int .u8 d.x0, .int .u8 d.x1, .int .u8 d.x2, .int .u8 d.x3, .int .u8 d.x4, .int .u8 d.x5, .int .u8 d.x6, .int .u8 d.x7]) (.int .i64 4)).run Tryz.prog w = .ok (.int .u8 d.x4) w := fun _ => by kernel_rfl
 have i5 : ∀ w, (Instr.index 27 (.agg #[.int .u8 d.x0, .int .u8 d.x1, .int .u8 d.x2, .int .u8 d.x3, .int .u8 d.x4, .int .u8 d.x5, .int .u8 d.x6, .int .u8 d.x7]) (.int .i64 5)).run Tryz.prog w = .ok (.int .u8 d.x5) w := fun _ => by kernel_rfl
 have i6 : ∀ w, (Instr.index 27 (.agg #[.int .u8 d.x0, .int .u8 d.x1, .int .u8 d.x2, .int .u8 d.x3, .int .u8 d.x4, .int .u8 d.x5, .int .u8 d.x6, .int .u8 d.x7]) (.int .i64 6)).run Tryz.prog w = .ok (.int .u8 d.x6) w := fun _ => by kernel_rfl
 have i7 : ∀ w, (Instr.index 27 (.agg #[.int .u8 d.x0, .int .u8 d.x1, .int .u8 d.x2, .int .u8 d.x3, .int .u8 d.x4, .int .u8 d.x5, .int .u8 d.x6, .int .u8 d.x7]) (.int .i64 7)).run Tryz.prog w = .ok (.int .u8 d.x7) w := fun _ => by kernel_rfl
 obtain ⟨h0, h1, h2, h3, h4, h5, h6, h7⟩ := h
 have Hors := Lib.hid (ors h0 h1 h2 h3 h4 h5 h6 h7)
 go_enter Tryz.func88, Tryz.ntmps88
 go_wp2
 refine wp_loop_rounds 9 ?_
 iterate 9 (rw [rounds_succ]; go_wp2)
 go_ret
 exact ⟨ret_int Hors.out, (Below.refl _ _).alloc (Nat.le_refl _) _⟩
set_option maxRecDepth 100000 in
set_option maxHeartbeats 1000000 in
theorem hfrom_any (n : Nat) (w : World) (h : n < 18446744073709551616) :
  Calls Tryz.prog 161 #[.int .u64 n] w fun e w' => e = .returned (.agg #[.int .u8 (D8.of n).x0, .int .u8 (D8.of n).x1, .int .u8 (D8.of n).x2, .int .u8 (D8.of n).x3, .int .u8 (D8.of n).x4, .int .u8 (D8.of n).x5, .int .u8 (D8.of n).x6, .int .u8 (D8.of n).x7]) ∧ Below w.heap.size w w' := by
 have H := Lib.hid h
 clear h
 go_enter Tryz.func161, Tryz.ntmps161
 go_wp2
 refine wp_loop_rounds 9 ?_
 iterate 9 (rw [rounds_succ]; go_wp2)
 have e0 : ((D8.of n).x0 : Int) = (n : Int) % 256 := by unfold D8.of; simp only; omega
 have e1 : ((D8.of n).x1 : Int) = (n : Int) / 256 % 256 := by unfold D8.of; simp only; omega
 have e2 : ((D8.of n).x2 : Int) = (n : Int) / 65536 % 256 := by unfold D8.of; simp only; omega
 have e3 : ((D8.of n).x3 : Int) = (n : Int) / 16777216 % 256 := by unfold D8.of; simp only; omega
 have e4 : ((D8.of n).x4 : Int) = (n : Int) / 4294967296 % 256 := by unfold D8.of; simp only; omega
 have e5 : ((D8.of n).x5 : Int) = (n : Int) / 1099511627776 % 256 := by unfold D8.of; simp only; omega
 have e6 : ((D8.of n).x6 : Int) = (n : Int) / 281474976710656 % 256 := by unfold D8.of; simp only; omega
 have e7 : ((D8.of n).x7 : Int) = (n : Int) / 72057594037927936 % 256 := by unfold D8.of; simp only; omega
 refine bodyPost_ret (v := .agg #[.int .u8 (D8.of n).x0, .int .u8 (D8.of n).x1, .int .u8 (D8.of n).x2, .int .u8 (D8.of n).x3, .int .u8 (D8.of n).x4, .int .u8 (D8.of n).x5, .int .u8 (D8.of n).x6, .int .u8 (D8.of n).x7]) (by simp [results, Tryz.results161, go_sem, e0, e1, e2, e3, e4, e5, e6, e7]) rfl ⟨rfl, ?_⟩
 exact ((Below.refl _ _).alloc (Nat.le_refl _) _).alloc (by simp) _
set_option maxRecDepth 100000 in
set_option maxHeartbeats 1000000 in
theorem rfrom_any (n : Nat) (w : World) (h : n < 18446744073709551616) :
  Calls Tryz.prog 169 #[.int .u64 n] w fun e w' => e = .returned (.agg #[.int .u8 (D8.of n).x0, .int .u8 (D8.of n).x1, .int .u8 (D8.of n).x2, .int .u8 (D8.of n).x3, .int .u8 (D8.of n).x4, .int .u8 (D8.of n).x5, .int .u8 (D8.of n).x6, .int .u8 (D8.of n).x7]) ∧ Below w.heap.size w w' := by
 have h' : (n : Int) ≤ 18446744073709551615 := by omega
 clear h
 go_enter Tryz.func169, Tryz.ntmps169
 go_wp2
 refine wp_loop_rounds 9 ?_
 iterate 9 (rw [rounds_succ]; go_wp2)
 have e0 : ((D8.of n).x0 : Int) = (n : Int) % 256 := by unfold D8.of; simp only; omega
 have e1 : ((D8.of n).x1 : Int) = (n : Int) / 256 % 256 := by unfold D8.of; simp only; omega
 have e2 : ((D8.of n).x2 : Int) = (n : Int) / 256 / 256 % 256 := by unfold D8.of; simp only; omega
 have e3 : ((D8.of n).x3 : Int) = (n : Int) / 256 / 256 / 256 % 256 := by unfold D8.of; simp only; omega
 have e4 : ((D8.of n).x4 : Int) = (n : Int) / 256 / 256 / 256 / 256 % 256 := by unfold D8.of; simp only; omega
 have e5 : ((D8.of n).x5 : Int) = (n : Int) / 256 / 256 / 256 / 256 / 256 % 256 := by unfold D8.of; simp only; omega
 have e6 : ((D8.of n).x6 : Int) = (n : Int) / 256 / 256 / 256 / 256 / 256 / 256 % 256 := by unfold D8.of; simp only; omega
 have e7 : ((D8.of n).x7 : Int) = (n : Int) / 256 / 256 / 256 / 256 / 256 / 256 / 256 % 256 := by unfold D8.of; simp only; omega
 refine bodyPost_ret (v := .agg #[.int .u8 (D8.of n).x0, .int .u8 (D8.of n).x1, .int .u8 (D8.of n).x2, .int .u8 (D8.of n).x3, .int .u8 (D8.of n).x4, .int .u8 (D8.of n).x5, .int .u8 (D8.of n).x6, .int .u8 (D8.of n).x7]) (by simp [results, Tryz.results169, go_sem, e0, e1, e2, e3, e4, e5, e6, e7]) rfl ⟨rfl, ?_⟩
 exact ((Below.refl _ _).alloc (Nat.le_refl _) _).alloc (by simp) _
set_option maxRecDepth 100000 in
set_option maxHeartbeats 1000000 in
theorem rnum_any (d : D8) (w : World) (h : d.ok) :
  Calls Tryz.prog 91 #[.agg #[.int .u8 d.x0, .int .u8 d.x1, .int .u8 d.x2, .int .u8 d.x3, .int .u8 d.x4, .int .u8 d.x5, .int .u8 d.x6, .int .u8 d.x7]] w fun e w' => e = .returned (.int .u64 d.num) ∧ Below w.heap.size w w' := by
 obtain ⟨h0, h1, h2, h3, h4, h5, h6, h7⟩ := h
 go_enter Tryz.func91, Tryz.ntmps91
 go_wp2
 refine wp_loop_rounds 9 ?_
 iterate 9 (rw [rounds_succ]; go_wp2)
 go_ret
 exact ⟨ret_int (by unfold D8.num; omega), (Below.refl _ _).alloc (Nat.le_refl _) _⟩
end Go.Proofs.YthhiookcknnmdaaGreat
