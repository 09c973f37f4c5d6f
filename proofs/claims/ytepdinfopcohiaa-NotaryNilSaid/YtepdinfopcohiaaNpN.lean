/- What a nil book, verifier and signer do. Condition: none. -/
import Derived.Test.YtepdinfopcohiaaNpF
namespace Go.Proofs.Ytepdinfopcohiaa
open Go.RowKit Go.Lib


theorem nil_signN (k : D8) (w : World) : (nilAhead (Try.prog.types.size + Made.depth) 79 (.agg #[.pointer none, .int .u8 (k.x0 : Int), .int .u8 (k.x1 : Int), .int .u8 (k.x2 : Int), .int .u8 (k.x3 : Int), .int .u8 (k.x4 : Int), .int .u8 (k.x5 : Int), .int .u8 (k.x6 : Int), .int .u8 (k.x7 : Int)]) "Sign").run Try.prog w = .ok (some false) w := by kernel_rfl
theorem meth_signN (k : D8) (w : World) : (method (Try.prog.types.size + Made.depth) 79 (.agg #[.pointer none, .int .u8 (k.x0 : Int), .int .u8 (k.x1 : Int), .int .u8 (k.x2 : Int), .int .u8 (k.x3 : Int), .int .u8 (k.x4 : Int), .int .u8 (k.x5 : Int), .int .u8 (k.x6 : Int), .int .u8 (k.x7 : Int)]) "Sign").run Try.prog w = .ok (52, .agg #[.pointer none, .int .u8 (k.x0 : Int), .int .u8 (k.x1 : Int), .int .u8 (k.x2 : Int), .int .u8 (k.x3 : Int), .int .u8 (k.x4 : Int), .int .u8 (k.x5 : Int), .int .u8 (k.x6 : Int), .int .u8 (k.x7 : Int)]) w := by kernel_rfl
theorem meth_keyN (k : D8) (w : World) : (method (Try.prog.types.size + Made.depth) 79 (.agg #[.pointer none, .int .u8 (k.x0 : Int), .int .u8 (k.x1 : Int), .int .u8 (k.x2 : Int), .int .u8 (k.x3 : Int), .int .u8 (k.x4 : Int), .int .u8 (k.x5 : Int), .int .u8 (k.x6 : Int), .int .u8 (k.x7 : Int)]) "Key").run Try.prog w = .ok (51, .agg #[.pointer none, .int .u8 (k.x0 : Int), .int .u8 (k.x1 : Int), .int .u8 (k.x2 : Int), .int .u8 (k.x3 : Int), .int .u8 (k.x4 : Int), .int .u8 (k.x5 : Int), .int .u8 (k.x6 : Int), .int .u8 (k.x7 : Int)]) w := by kernel_rfl
set_option maxRecDepth 100000 in
theorem verifyN_any (k m : D8) (A : Option Addr) (n c : Nat) (w : World) : Calls Try.prog 14 #[.pointer none, .agg #[.int .u8 (k.x0 : Int), .int .u8 (k.x1 : Int), .int .u8 (k.x2 : Int), .int .u8 (k.x3 : Int), .int .u8 (k.x4 : Int), .int .u8 (k.x5 : Int), .int .u8 (k.x6 : Int), .int .u8 (k.x7 : Int)], .agg #[.int .u8 (m.x0 : Int), .int .u8 (m.x1 : Int), .int .u8 (m.x2 : Int), .int .u8 (m.x3 : Int), .int .u8 (m.x4 : Int), .int .u8 (m.x5 : Int), .int .u8 (m.x6 : Int), .int .u8 (m.x7 : Int)], .slice A n c] w fun r w' => r = .returned (.bool false) ∧ Below w.heap.size w w' := by
  go_enter Try.func14, Try.ntmps14
  go_wp2
  go_ret
  exact ⟨rfl, (((Below.refl _ _).alloc (Nat.le_refl _) _).alloc (by simp) _)⟩
set_option maxRecDepth 100000 in
theorem signedN_any (k : D8) (w : World) : Calls Try.prog 16 #[.pointer none, .agg #[.int .u8 (k.x0 : Int), .int .u8 (k.x1 : Int), .int .u8 (k.x2 : Int), .int .u8 (k.x3 : Int), .int .u8 (k.x4 : Int), .int .u8 (k.x5 : Int), .int .u8 (k.x6 : Int), .int .u8 (k.x7 : Int)]] w fun r w' => r = .returned (.slice none 0 0) ∧ Below w.heap.size w w' := by
  go_enter Try.func16, Try.ntmps16
  go_wp2
  go_ret
  exact ⟨rfl, below_one w _⟩
set_option maxRecDepth 100000 in
theorem cloneN_any (w : World) : Calls Try.prog 19 #[.pointer none] w fun r w' => r = .returned (.pointer none) ∧ Below w.heap.size w w' := by
  go_enter Try.func19, Try.ntmps19
  go_wp2
  go_ret
  exact ⟨rfl, Below.refl _ _⟩
set_option maxRecDepth 100000 in
theorem sameNN_any (w : World) : Calls Try.prog 20 #[.pointer none, .pointer none] w fun r w' => r = .returned (.bool true) ∧ Below w.heap.size w w' := by
  go_enter Try.func20, Try.ntmps20
  go_wp2
  go_ret
  exact ⟨rfl, Below.refl _ _⟩
set_option maxRecDepth 100000 in
theorem sameNB_any (b : Nat) (w : World) : Calls Try.prog 20 #[.pointer none, .pointer (some ⟨b, 0, none⟩)] w fun r w' => r = .returned (.bool false) ∧ Below w.heap.size w w' := by
  go_enter Try.func20, Try.ntmps20
  go_wp2
  go_ret
  exact ⟨rfl, Below.refl _ _⟩
set_option maxRecDepth 100000 in
theorem sameBN_any (b : Nat) (w : World) : Calls Try.prog 20 #[.pointer (some ⟨b, 0, none⟩), .pointer none] w fun r w' => r = .returned (.bool false) ∧ Below w.heap.size w w' := by
  go_enter Try.func20, Try.ntmps20
  go_wp2
  go_ret
  exact ⟨rfl, Below.refl _ _⟩
set_option maxRecDepth 100000 in
theorem signerN_any (k : D8) (w : World) : Calls Try.prog 12 #[.pointer none, .agg #[.int .u8 (k.x0 : Int), .int .u8 (k.x1 : Int), .int .u8 (k.x2 : Int), .int .u8 (k.x3 : Int), .int .u8 (k.x4 : Int), .int .u8 (k.x5 : Int), .int .u8 (k.x6 : Int), .int .u8 (k.x7 : Int)]] w fun e w' => e = .returned (.iface 79 (.agg #[.pointer none, .int .u8 (k.x0 : Int), .int .u8 (k.x1 : Int), .int .u8 (k.x2 : Int), .int .u8 (k.x3 : Int), .int .u8 (k.x4 : Int), .int .u8 (k.x5 : Int), .int .u8 (k.x6 : Int), .int .u8 (k.x7 : Int)])) ∧ Below w.heap.size w w' := by
  go_enter Try.func12, Try.ntmps12
  go_wp2
  go_ret
  exact ⟨rfl, below_one w _⟩
set_option maxRecDepth 100000 in
theorem keyN_any (k : D8) (w : World) : Calls Try.prog 51 #[.agg #[.pointer none, .int .u8 (k.x0 : Int), .int .u8 (k.x1 : Int), .int .u8 (k.x2 : Int), .int .u8 (k.x3 : Int), .int .u8 (k.x4 : Int), .int .u8 (k.x5 : Int), .int .u8 (k.x6 : Int), .int .u8 (k.x7 : Int)]] w fun e w' => e = .returned (.agg #[.int .u8 (k.x0 : Int), .int .u8 (k.x1 : Int), .int .u8 (k.x2 : Int), .int .u8 (k.x3 : Int), .int .u8 (k.x4 : Int), .int .u8 (k.x5 : Int), .int .u8 (k.x6 : Int), .int .u8 (k.x7 : Int)]) ∧ Below w.heap.size w w' := by
  go_enter Try.func51, Try.ntmps51
  go_wp2
  refine bodyPost_ret (v := .agg #[.int .u8 (k.x0 : Int), .int .u8 (k.x1 : Int), .int .u8 (k.x2 : Int), .int .u8 (k.x3 : Int), .int .u8 (k.x4 : Int), .int .u8 (k.x5 : Int), .int .u8 (k.x6 : Int), .int .u8 (k.x7 : Int)]) (by simp [results, Try.results51, go_sem]) rfl ⟨rfl, ?_⟩
  exact ((Below.refl _ _).alloc (Nat.le_refl _) _).alloc (by simp) _
set_option maxRecDepth 100000 in
theorem wsignN_any (k m : D8) (w : World) : Calls Try.prog 52 #[.agg #[.pointer none, .int .u8 (k.x0 : Int), .int .u8 (k.x1 : Int), .int .u8 (k.x2 : Int), .int .u8 (k.x3 : Int), .int .u8 (k.x4 : Int), .int .u8 (k.x5 : Int), .int .u8 (k.x6 : Int), .int .u8 (k.x7 : Int)], .agg #[.int .u8 (m.x0 : Int), .int .u8 (m.x1 : Int), .int .u8 (m.x2 : Int), .int .u8 (m.x3 : Int), .int .u8 (m.x4 : Int), .int .u8 (m.x5 : Int), .int .u8 (m.x6 : Int), .int .u8 (m.x7 : Int)]] w fun e w' => e = .returned (.tuple #[.slice none 0 0, .int .i64 1]) ∧ Below w.heap.size w w' := by
  go_enter Try.func52, Try.ntmps52
  go_wp2
  go_ret2
  exact ⟨rfl, ((Below.refl _ _).alloc (Nat.le_refl _) _).alloc (by simp) _⟩
set_option maxRecDepth 100000 in
set_option maxHeartbeats 2000000 in
theorem gatherN_any (m : D8) (b c : Nat) (w : World) (hb : b < w.heap.size) (hn : w.cell? ⟨b, 0, none⟩ = some .nilIface) : Calls Try.prog 28 #[.agg #[.int .u8 (m.x0 : Int), .int .u8 (m.x1 : Int), .int .u8 (m.x2 : Int), .int .u8 (m.x3 : Int), .int .u8 (m.x4 : Int), .int .u8 (m.x5 : Int), .int .u8 (m.x6 : Int), .int .u8 (m.x7 : Int)], .slice (some ⟨b, 0, none⟩) 1 c] w fun r w' => r = .returned (.tuple #[.slice none 0 0, .int .i64 1]) ∧ Below w.heap.size w w' := by
  obtain ⟨i0, hi, hz0, hz1, hz2⟩ := info_parts info_bytes
  have HI := Lib.hid (And.intro hi (And.intro hz0 (And.intro hz1 hz2))); clear hi hz0 hz1 hz2
  have Hu := Lib.hid Try.underlying65
  have hb0 := below_one w (.cells #[.int .u8 (m.x0 : Int), .int .u8 (m.x1 : Int), .int .u8 (m.x2 : Int), .int .u8 (m.x3 : Int), .int .u8 (m.x4 : Int), .int .u8 (m.x5 : Int), .int .u8 (m.x6 : Int), .int .u8 (m.x7 : Int)] 32)
  have Hb0 := Lib.hid hb0
  have x0 := cell_kept hn hb0 hb
  have Hx0 := Lib.hid x0
  have Hz0 : Hid ((w.alloc (.cells #[.int .u8 (m.x0 : Int), .int .u8 (m.x1 : Int), .int .u8 (m.x2 : Int), .int .u8 (m.x3 : Int), .int .u8 (m.x4 : Int), .int .u8 (m.x5 : Int), .int .u8 (m.x6 : Int), .int .u8 (m.x7 : Int)] 32)).heap.size = w.heap.size + 1) := Lib.hid (by simp)
  clear hn hb0 x0
  go_enter Try.func28, Try.ntmps28
  go_wp2_with (at_make; go_must (refine wpList_make_own (w.alloc (.cells #[.int .u8 (m.x0 : Int), .int .u8 (m.x1 : Int), .int .u8 (m.x2 : Int), .int .u8 (m.x3 : Int), .int .u8 (m.x4 : Int), .int .u8 (m.x5 : Int), .int .u8 (m.x6 : Int), .int .u8 (m.x7 : Int)] 32)) (by rfl) _ _ 65 (by rfl) (w.heap.size + 1) 37 i0 (.slice none 0 0) 1 Hu.out HI.out.1 HI.out.2.1 HI.out.2.2.1 .i64 .i64 _ 1 (by rfl) (by rfl) (by simp) (by rw [HI.out.2.2.2]; omega) (by simp only [maxLen]; omega) (by simp) ?_); intro w1 ho1 hg1; have hbg : Below (w.alloc (.cells #[.int .u8 (m.x0 : Int), .int .u8 (m.x1 : Int), .int .u8 (m.x2 : Int), .int .u8 (m.x3 : Int), .int .u8 (m.x4 : Int), .int .u8 (m.x5 : Int), .int .u8 (m.x6 : Int), .int .u8 (m.x7 : Int)] 32)).heap.size (w.alloc (.cells #[.int .u8 (m.x0 : Int), .int .u8 (m.x1 : Int), .int .u8 (m.x2 : Int), .int .u8 (m.x3 : Int), .int .u8 (m.x4 : Int), .int .u8 (m.x5 : Int), .int .u8 (m.x6 : Int), .int .u8 (m.x7 : Int)] 32)) w1 := (below_of_grown hg1 (Nat.le_refl _) (fun k hk => by cases hk)); have hx1 := Lib.hid (cell_kept Hx0.out hbg (by rw [Hz0.out]; omega)); have Hb1 := Lib.hid (Hb0.out.trans (hbg.mono (by rw [Hz0.out]; omega))); clear ho1 hg1 hbg)
  go_loopw [16] (fun i wr => i = .int .i64 0 ∧ wr = w1) (fun _ _ => 0)
  case atStart => exact ⟨rfl, rfl⟩
  case round =>
    obtain ⟨rfl, rfl⟩ := hrel
    have x0 := hx1.out
    go_wp2
    refine bodyPost_ret (v := .tuple #[.slice none 0 0, .int .i64 1]) (by simp [results, Try.results28, go_sem]) rfl ⟨rfl, Hb1.out⟩
set_option maxRecDepth 100000 in
set_option maxHeartbeats 4000000 in
theorem missingN_any (ks : List D8) (Ak : Option Addr) (nk ck : Nat) (m : D8) (As : Option Addr) (ns cs : Nat) (w : World) (hk : Rd w w.heap.size 8 Ak nk (flatD ks)) (hnk : nk ≤ 1000) :
    Calls Try.prog 24 #[.nilIface, .slice Ak nk ck, .agg #[.int .u8 (m.x0 : Int), .int .u8 (m.x1 : Int), .int .u8 (m.x2 : Int), .int .u8 (m.x3 : Int), .int .u8 (m.x4 : Int), .int .u8 (m.x5 : Int), .int .u8 (m.x6 : Int), .int .u8 (m.x7 : Int)], .slice As ns cs, .slice none 0 0] w fun r w' => ∃ A' c', r = .returned (.slice A' nk c') ∧ Below w.heap.size w w' := by
  obtain ⟨i0, hi, hz0, hz1, hz2⟩ := info_parts info_int
  have HI := Lib.hid (And.intro hi (And.intro hz0 (And.intro hz1 hz2))); clear hi hz0 hz1 hz2
  have hb0 := below_one w (.cells #[.int .u8 (m.x0 : Int), .int .u8 (m.x1 : Int), .int .u8 (m.x2 : Int), .int .u8 (m.x3 : Int), .int .u8 (m.x4 : Int), .int .u8 (m.x5 : Int), .int .u8 (m.x6 : Int), .int .u8 (m.x7 : Int)] 32)
  have Hb0 := Lib.hid hb0
  have Hz0 : Hid ((w.alloc (.cells #[.int .u8 (m.x0 : Int), .int .u8 (m.x1 : Int), .int .u8 (m.x2 : Int), .int .u8 (m.x3 : Int), .int .u8 (m.x4 : Int), .int .u8 (m.x5 : Int), .int .u8 (m.x6 : Int), .int .u8 (m.x7 : Int)] 32)).heap.size = w.heap.size + 1) := Lib.hid (by simp)
  have Hk := Lib.hid hk
  have Hu := Lib.hid Try.underlying67
  clear hk hb0
  go_enter Try.func24, Try.ntmps24
  go_wp2
  go_loopw [11, 16] (fun v i wr => ∃ (k : Nat) (xs : List Value), k ≤ nk ∧ i = .int .i64 (k : Int) ∧ Hid (wr.ownsRow (w.heap.size + 1) 3 1 v k xs) ∧ Hid (Below w.heap.size w wr) ∧ Hid (w.heap.size + 1 ≤ wr.heap.size)) (fun _ i _ => nk - (Lib.intOf i).toNat)
  case atStart => exact ⟨0, [], Nat.zero_le _, rfl, Lib.hid (World.ownsRow_nil _ _ _ _), Hb0, Lib.hid (by rw [Hz0.out]; omega)⟩
  case round =>
    obtain ⟨k, xs, hkn, rfl, Hown, Hb, Hz⟩ := hrel
    obtain ⟨A', c', rfl⟩ := own_form Hown.out
    by_cases hlt : k < nk
    · obtain ⟨b, o, rfl, hbB, x⟩ := (Hk.out.below Hb.out (Nat.le_refl _)).di hlt
      generalize ks.getD k ⟨0, 0, 0, 0, 0, 0, 0, 0⟩ = d at *
      have x0 := x 0 (by decide); have x1 := x 1 (by decide); have x2 := x 2 (by decide); have x3 := x 3 (by decide); have x4 := x 4 (by decide); have x5 := x 5 (by decide); have x6 := x 6 (by decide); have x7 := x 7 (by decide)
      simp [D8.cells] at x0 x1 x2 x3 x4 x5 x6 x7
      clear x
      have hd1 : decide ((k : Int) < (nk : Int)) = true := decide_eq_true (by omega)
      have hi0 : (0 : Int) ≤ (k : Int) := by omega
      have hki : (k : Int) < (nk : Int) := by omega
      have hdk : decide ((k : Int) < 0) = false := decide_eq_false (by omega)
      have Hown2 := Lib.hid (Hown.out.alloc (.cells #[.int .u8 (d.x0 : Int), .int .u8 (d.x1 : Int), .int .u8 (d.x2 : Int), .int .u8 (d.x3 : Int), .int .u8 (d.x4 : Int), .int .u8 (d.x5 : Int), .int .u8 (d.x6 : Int), .int .u8 (d.x7 : Int)] 32))
      have Hb2 := Lib.hid (Hb.out.alloc Hb.out.size (.cells #[.int .u8 (d.x0 : Int), .int .u8 (d.x1 : Int), .int .u8 (d.x2 : Int), .int .u8 (d.x3 : Int), .int .u8 (d.x4 : Int), .int .u8 (d.x5 : Int), .int .u8 (d.x6 : Int), .int .u8 (d.x7 : Int)] 32))
      have Hz2 : Hid (w.heap.size + 1 ≤ (wr.alloc (.cells #[.int .u8 (d.x0 : Int), .int .u8 (d.x1 : Int), .int .u8 (d.x2 : Int), .int .u8 (d.x3 : Int), .int .u8 (d.x4 : Int), .int .u8 (d.x5 : Int), .int .u8 (d.x6 : Int), .int .u8 (d.x7 : Int)] 32)).heap.size) := Lib.hid (by rw [World.size_alloc]; have := Hz.out; omega)
      go_upto_region 6 with fail
      generalize wr.alloc (.cells #[.int .u8 (d.x0 : Int), .int .u8 (d.x1 : Int), .int .u8 (d.x2 : Int), .int .u8 (d.x3 : Int), .int .u8 (d.x4 : Int), .int .u8 (d.x5 : Int), .int .u8 (d.x6 : Int), .int .u8 (d.x7 : Int)] 32) = w2 at *
      clear x0 x1 x2 x3 x4 x5 x6 x7 Hown Hb Hz
      refine wp_region_held_drew (S := fun _ => True) (by kernel_rfl) trivial (fun hHeld => ?_)
      refine takeH 0 (some 33) (v := ?_) rfl (by kernel_rfl) (by kernel_rfl) (by kernel_rfl) (by kernel_rfl) (fun _ _ _ h => h) (Or.inl ⟨by kernel_rfl, ?hy⟩) (by assumption) ?_
      case hy =>
        intro w' hSw
        try dsimp only at hSw
        first
          | (go_simp; done)
          | (go_simp; with_reducible rfl)
      simp only [Act.put, List.setIfInBounds_toArray, List.set_cons_zero, List.set_cons_succ]
      refine takeH 1 (some 34) (v := ?_) rfl (by kernel_rfl) (by kernel_rfl) (by kernel_rfl) (by kernel_rfl) (fun _ _ _ h => h) (Or.inl ⟨by kernel_rfl, ?hy⟩) (by assumption) ?_
      case hy =>
        intro w' hSw
        try dsimp only at hSw
        first
          | (go_simp; done)
          | (go_simp; with_reducible rfl)
      simp only [Act.put, List.setIfInBounds_toArray, List.set_cons_zero, List.set_cons_succ]
      refine takeH 2 (some 35) (v := ?_) rfl (by kernel_rfl) (by kernel_rfl) (by kernel_rfl) (by kernel_rfl) (fun _ _ _ h => h) (Or.inl ⟨by kernel_rfl, ?hy⟩) (by assumption) ?_
      case hy =>
        intro w' hSw
        try dsimp only at hSw
        first
          | (go_simp; done)
          | (go_simp; with_reducible rfl)
      simp only [Act.put, List.setIfInBounds_toArray, List.set_cons_zero, List.set_cons_succ]
      refine takeH 3 (some 36) (v := undef) rfl (by kernel_rfl) (by kernel_rfl) (by kernel_rfl) (by kernel_rfl) (fun _ _ _ h => h) (Or.inr ⟨by kernel_rfl, rfl⟩) (by assumption) ?_
      simp only [Act.put, List.setIfInBounds_toArray, List.set_cons_zero, List.set_cons_succ]
      refine takeH 4 (some 37) (v := undef) rfl (by kernel_rfl) (by kernel_rfl) (by kernel_rfl) (by kernel_rfl) (fun _ _ _ h => h) (Or.inr ⟨by kernel_rfl, rfl⟩) (by assumption) ?_
      simp only [Act.put, List.setIfInBounds_toArray, List.set_cons_zero, List.set_cons_succ]
      refine takeH 5 (some 38) (v := undef) rfl (by kernel_rfl) (by kernel_rfl) (by kernel_rfl) (by kernel_rfl) (fun _ _ _ h => h) (Or.inr ⟨by kernel_rfl, rfl⟩) (by assumption) ?_
      simp only [Act.put, List.setIfInBounds_toArray, List.set_cons_zero, List.set_cons_succ]
      refine takeH 6 (some 39) (v := undef) rfl (by kernel_rfl) (by kernel_rfl) (by kernel_rfl) (by kernel_rfl) (fun _ _ _ h => h) (Or.inr ⟨by kernel_rfl, rfl⟩) (by assumption) ?_
      simp only [Act.put, List.setIfInBounds_toArray, List.set_cons_zero, List.set_cons_succ]
      refine takeH 7 (some 40) (v := ?_) rfl (by kernel_rfl) (by kernel_rfl) (by kernel_rfl) (by kernel_rfl) (fun _ _ _ h => h) (Or.inl ⟨by kernel_rfl, ?hy⟩) (by assumption) ?_
      case hy =>
        intro w' hSw
        try dsimp only at hSw
        first
          | (go_simp; done)
          | (go_simp; with_reducible rfl)
      simp only [Act.put, List.setIfInBounds_toArray, List.set_cons_zero, List.set_cons_succ]
      refine takeH 8 (some 41) (v := ?_) rfl (by kernel_rfl) (by kernel_rfl) (by kernel_rfl) (by kernel_rfl) (fun _ _ _ h => h) (Or.inl ⟨by kernel_rfl, ?hy⟩) (by assumption) ?_
      case hy =>
        intro w' hSw
        try dsimp only at hSw
        first
          | (go_simp; done)
          | (go_simp; with_reducible rfl)
      simp only [Act.put, List.setIfInBounds_toArray, List.set_cons_zero, List.set_cons_succ]
      refine takeH 9 (some 42) (v := undef) rfl (by kernel_rfl) (by kernel_rfl) (by kernel_rfl) (by kernel_rfl) (fun _ _ _ h => h) (Or.inr ⟨by kernel_rfl, rfl⟩) (by assumption) ?_
      simp only [Act.put, List.setIfInBounds_toArray, List.set_cons_zero, List.set_cons_succ]
      refine takeH 10 (some 43) (v := undef) rfl (by kernel_rfl) (by kernel_rfl) (by kernel_rfl) (by kernel_rfl) (fun _ _ _ h => h) (Or.inr ⟨by kernel_rfl, rfl⟩) (by assumption) ?_
      simp only [Act.put, List.setIfInBounds_toArray, List.set_cons_zero, List.set_cons_succ]
      refine takeH 11 (some 44) (v := undef) rfl (by kernel_rfl) (by kernel_rfl) (by kernel_rfl) (by kernel_rfl) (fun _ _ _ h => h) (Or.inr ⟨by kernel_rfl, rfl⟩) (by assumption) ?_
      simp only [Act.put, List.setIfInBounds_toArray, List.set_cons_zero, List.set_cons_succ]
      refine takeH 12 (some 45) (v := undef) rfl (by kernel_rfl) (by kernel_rfl) (by kernel_rfl) (by kernel_rfl) (fun _ _ _ h => h) (Or.inr ⟨by kernel_rfl, rfl⟩) (by assumption) ?_
      simp only [Act.put, List.setIfInBounds_toArray, List.set_cons_zero, List.set_cons_succ]
      refine takeH 13 (some 46) (v := undef) rfl (by kernel_rfl) (by kernel_rfl) (by kernel_rfl) (by kernel_rfl) (fun _ _ _ h => h) (Or.inr ⟨by kernel_rfl, rfl⟩) (by assumption) ?_
      simp only [Act.put, List.setIfInBounds_toArray, List.set_cons_zero, List.set_cons_succ]
      refine takeH 14 (some 47) (v := undef) rfl (by kernel_rfl) (by kernel_rfl) (by kernel_rfl) (by kernel_rfl) (fun _ _ _ h => h) (Or.inr ⟨by kernel_rfl, rfl⟩) (by assumption) ?_
      simp only [Act.put, List.setIfInBounds_toArray, List.set_cons_zero, List.set_cons_succ]
      refine takeH 15 (some 48) (v := undef) rfl (by kernel_rfl) (by kernel_rfl) (by kernel_rfl) (by kernel_rfl) (fun _ _ _ h => h) (Or.inr ⟨by kernel_rfl, rfl⟩) (by assumption) ?_
      simp only [Act.put, List.setIfInBounds_toArray, List.set_cons_zero, List.set_cons_succ]
      refine takeH 16 (some 49) (v := undef) rfl (by kernel_rfl) (by kernel_rfl) (by kernel_rfl) (by kernel_rfl) (fun _ _ _ h => h) (Or.inr ⟨by kernel_rfl, rfl⟩) (by assumption) ?_
      simp only [Act.put, List.setIfInBounds_toArray, List.set_cons_zero, List.set_cons_succ]
      refine takeH 17 (some 50) (v := undef) rfl (by kernel_rfl) (by kernel_rfl) (by kernel_rfl) (by kernel_rfl) (fun _ _ _ h => h) (Or.inr ⟨by kernel_rfl, rfl⟩) (by assumption) ?_
      simp only [Act.put, List.setIfInBounds_toArray, List.set_cons_zero, List.set_cons_succ]
      refine takeH 18 (some 51) (v := undef) rfl (by kernel_rfl) (by kernel_rfl) (by kernel_rfl) (by kernel_rfl) (fun _ _ _ h => h) (Or.inr ⟨by kernel_rfl, rfl⟩) (by assumption) ?_
      simp only [Act.put, List.setIfInBounds_toArray, List.set_cons_zero, List.set_cons_succ]
      refine takeH 19 (some 52) (v := undef) rfl (by kernel_rfl) (by kernel_rfl) (by kernel_rfl) (by kernel_rfl) (fun _ _ _ h => h) (Or.inr ⟨by kernel_rfl, rfl⟩) (by assumption) ?_
      simp only [Act.put, List.setIfInBounds_toArray, List.set_cons_zero, List.set_cons_succ]
      refine takeH 20 (some 53) (v := undef) rfl (by kernel_rfl) (by kernel_rfl) (by kernel_rfl) (by kernel_rfl) (fun _ _ _ h => h) (Or.inr ⟨by kernel_rfl, rfl⟩) (by assumption) ?_
      simp only [Act.put, List.setIfInBounds_toArray, List.set_cons_zero, List.set_cons_succ]
      refine takeH 21 (some 54) (v := undef) rfl (by kernel_rfl) (by kernel_rfl) (by kernel_rfl) (by kernel_rfl) (fun _ _ _ h => h) (Or.inr ⟨by kernel_rfl, rfl⟩) (by assumption) ?_
      simp only [Act.put, List.setIfInBounds_toArray, List.set_cons_zero, List.set_cons_succ]
      refine takeH 22 (some 55) (v := ?_) rfl (by kernel_rfl) (by kernel_rfl) (by kernel_rfl) (by kernel_rfl) (fun _ _ _ h => h) (Or.inl ⟨by kernel_rfl, ?hy⟩) (by assumption) ?_
      case hy =>
        intro w' hSw
        try dsimp only at hSw
        first
          | (go_simp; done)
          | (go_simp; with_reducible rfl)
      simp only [Act.put, List.setIfInBounds_toArray, List.set_cons_zero, List.set_cons_succ]
      refine takeH 23 (some 32) (v := ?_) rfl (by kernel_rfl) (by kernel_rfl) (by kernel_rfl) (by kernel_rfl) (fun _ _ _ h => h) (Or.inl ⟨by kernel_rfl, ?hy⟩) (by assumption) ?_
      case hy =>
        intro w' hSw
        try dsimp only at hSw
        first
          | (go_simp; done)
          | (go_simp; with_reducible rfl)
      simp only [Act.put, List.setIfInBounds_toArray, List.set_cons_zero, List.set_cons_succ]
      refine wpAnyH_done (by kernel_rfl) ?_ _
      have HO3 : Hid (w2.drew.ownsRow (w.heap.size + 1) 3 1 (.slice A' k c') k xs) := own_below Hown2.out (Below.refl _ _).drew
      have Hb3 := Lib.hid Hb2.out.drew
      have Hz3 : Hid (w.heap.size + 1 ≤ w2.drew.heap.size) := Hz2
      clear Hown2 Hb2 Hz2
      generalize w2.drew = w3 at *
      go_wp2_with (at_builtin; go_must (refine wpList_append_lit w3 (by rfl) _ _ 67 (by rfl) (w.heap.size + 1) 3 i0 (.int .i64 0) 1 8 Hu.out HI.out rfl (by decide) _ _ _ (by rfl) HO3.out 1 1 #[.int .i64 (k : Int)] 3 (by simp [Act.eval]) rfl (by simp [Value.oneCell']) (by omega) (by omega) Hz3.out ?_); intro v5 w5 hown5 hbel5; have HO5 := Lib.hid hown5; have Hb5 := Lib.hid (Hb3.out.trans (hbel5.mono (by omega))); have Hz5 := Lib.hid (Nat.le_trans Hz3.out hbel5.size); clear hown5 hbel5)
      go_roundw
      case rel => exact ⟨k + 1, _, hlt, by go_num, HO5, Hb5, Hz5⟩
      case measure => simp [Lib.intOf]; omega
    · obtain rfl : nk = k := by omega
      have hd1 : decide ((nk : Int) < (nk : Int)) = false := by simp
      clear hlt
      go_wp2
      go_ret
      exact ⟨A', c', rfl, Hb.out⟩
end Go.Proofs.Ytepdinfopcohiaa
