/- The walk of the statement TxBounds: each of a transaction's numbers may be as great as told, and no greater. Condition: none. -/
import Derived.Test.YtebepgoaofhelaaTxC
namespace Go.Proofs.Ytebepgoaofhelaa
open Go.RowKit Go.Lib


theorem d0_ok : d0.ok := by unfold D8.ok d0; simp
theorem atNil (no fe ki : Int) (w : World) : TxV.At ⟨d0, no, fe, ki, none, 0, 0, none, 0, 0, [], []⟩ w :=
  ⟨d0_ok, Rd.empty, Rd.empty, by simp, by simp, by simp, by simp, by simp, by simp⟩
theorem chk_nil {no fe ki : Int} (hk : ki ≠ 0) (h : inT no fe ki 0 0 = true) : checkT no fe ki [] [] = 0 := by
  simp [checkT, h, hk]
theorem chk_out {no fe ki : Int} (h : inT no fe ki 0 0 = false) : checkT no fe ki [] [] = 2 := by
  simp [checkT, h]
theorem made_bv (n : Nat) : (madeCells (Value.int .u8 0).cells (n * 1)).toList = bv (List.replicate n 0) := by
  show (madeCells #[.int .u8 0] (n * 1)).toList = _
  rw [toList_madeCells_one]; simp [bv]
theorem at_body {w : World} {m base : Nat} {g : Nat} (hm : m ≤ 100000) (h : w.ownsRow base 5 1 (.slice (some ⟨g, 0, none⟩) m m) m (madeCells (Value.int .u8 0).cells (m * 1)).toList) :
    TxV.At ⟨d0, 0, 0, 2, some ⟨g, 0, none⟩, m, m, none, 0, 0, List.replicate m 0, []⟩ w := by
  rw [made_bv] at h
  exact ⟨d0_ok, Rd.of_own h, Rd.empty, Nat.le_refl _, by simp, by intro x hx; have := List.eq_of_mem_replicate hx; omega, by simp, by simp only; omega, by simp⟩
theorem at_sig {w : World} {m base : Nat} {g : Nat} (hm : m ≤ 100000) (h : w.ownsRow base 5 1 (.slice (some ⟨g, 0, none⟩) m m) m (madeCells (Value.int .u8 0).cells (m * 1)).toList) :
    TxV.At ⟨d0, 0, 0, 2, none, 0, 0, some ⟨g, 0, none⟩, m, m, [], List.replicate m 0⟩ w := by
  rw [made_bv] at h
  exact ⟨d0_ok, Rd.empty, Rd.of_own h, by simp, Nat.le_refl _, by simp, by intro x hx; have := List.eq_of_mem_replicate hx; omega, by simp, by simp only; omega⟩
theorem wrapMod (n k : Int) (hk : 0 < k) : ∃ m : Nat, (IntKind.u64.wrap n).tmod k = (m : Int) ∧ (m : Int) < k := by
  have h := wrapU n
  refine ⟨((IntKind.u64.wrap n).tmod k).toNat, ?_, ?_⟩
  · rw [Int.tmod_eq_emod_of_nonneg h.1]; have := Int.emod_nonneg (IntKind.u64.wrap n) (show k ≠ 0 by omega); omega
  · rw [Int.tmod_eq_emod_of_nonneg h.1]; have := Int.emod_nonneg (IntKind.u64.wrap n) (show k ≠ 0 by omega); have := Int.emod_lt_of_pos (IntKind.u64.wrap n) hk; omega
set_option maxRecDepth 100000 in
set_option maxHeartbeats 2000000 in
theorem bounds_any (n : Int) (wh : Nat) (w : World) (h1 : -9223372036854775808 ≤ n) (h2 : n ≤ 9223372036854775807) (hw : wh < 256) :
    Calls Try.prog 4 #[.int .i64 n, .int .u8 (wh : Int)] w fun e w' => e = .returned (.bool true) ∧ Below w.heap.size w w' := by
  have Hn1 := Lib.hid h1
  have Hn2 := Lib.hid h2
  clear h1 h2
  have h5 : (wh : Int) % 5 = 0 ∨ (wh : Int) % 5 = 1 ∨ (wh : Int) % 5 = 2 ∨ (wh : Int) % 5 = 3 ∨ (wh : Int) % 5 = 4 := by omega
  rcases h5 with h5 | h5 | h5 | h5 | h5
  · have HT := Lib.hid (heap_alloc_new w (.cells #[.int .u8 0, .int .u8 0, .int .u8 0, .int .u8 0, .int .u8 0, .int .u8 0, .int .u8 0, .int .u8 0, .int .i64 n, .int .i64 0, .int .i64 2, .slice none 0 0, .slice none 0 0] 26))
    have Hw := Lib.hid (below_one w (.cells #[.int .u8 0, .int .u8 0, .int .u8 0, .int .u8 0, .int .u8 0, .int .u8 0, .int .u8 0, .int .u8 0, .int .i64 n, .int .i64 0, .int .i64 2, .slice none 0 0, .slice none 0 0] 26))
    have HAt := Lib.hid (atNil n 0 2 (w.alloc (.cells #[.int .u8 0, .int .u8 0, .int .u8 0, .int .u8 0, .int .u8 0, .int .u8 0, .int .u8 0, .int .u8 0, .int .i64 n, .int .i64 0, .int .i64 2, .slice none 0 0, .slice none 0 0] 26)))
    by_cases q1 : 0 ≤ n
    · have b1 : decide (0 ≤ n) = true := decide_eq_true q1
      by_cases q2 : n ≤ 1099511627776
      · have b2 : decide (n ≤ 1099511627776) = true := decide_eq_true q2
        have Hc : Hid (checkT n 0 2 [] [] = 0) := chk_nil (by omega) (by simp [inT, upB, q1, q2])
        clear q1 q2
        go_enter Try.func4, Try.ntmps4
        go_wp2_with fail
        refine (known_any _).mono ?_
        rintro e w1 ⟨rfl, hb1⟩
        have T := block_below HT.out hb1 (block_lt HT.out)
        have y := block_cell T
        have y0 := y 0; have y1 := y 1; have y2 := y 2; have y3 := y 3; have y4 := y 4; have y5 := y 5; have y6 := y 6; have y7 := y 7; have y8 := y 8; have y9 := y 9; have y10 := y 10; have y11 := y 11; have y12 := y 12
        simp at y0 y1 y2 y3 y4 y5 y6 y7 y8 y9 y10 y11 y12
        have Hw1 := Lib.hid (Hw.out.trans (hb1.mono Hw.out.size))
        have Hat := Lib.hid (TxV.At.up (t := ⟨d0, n, 0, 2, none, 0, 0, none, 0, 0, [], []⟩) HAt.out hb1)
        clear T y hb1
        go_wp2_with fail
        refine (check_any ⟨d0, n, 0, 2, none, 0, 0, none, 0, 0, [], []⟩ w1 Hat.out).mono ?_
        rintro e w2 ⟨rfl, hb2⟩
        rw [Hc.out]
        have Hw2 := Lib.hid (Hw1.out.trans (hb2.mono Hw1.out.size))
        clear hb2
        go_wp2
        go_ret
        exact ⟨rfl, Hw2.out⟩
      · have b2 : decide (n ≤ 1099511627776) = false := decide_eq_false q2
        have Hc : Hid (checkT n 0 2 [] [] = 2) := chk_out (by simp [inT, upB, q1, q2])
        clear q1 q2
        go_enter Try.func4, Try.ntmps4
        go_wp2_with fail
        refine (known_any _).mono ?_
        rintro e w1 ⟨rfl, hb1⟩
        have T := block_below HT.out hb1 (block_lt HT.out)
        have y := block_cell T
        have y0 := y 0; have y1 := y 1; have y2 := y 2; have y3 := y 3; have y4 := y 4; have y5 := y 5; have y6 := y 6; have y7 := y 7; have y8 := y 8; have y9 := y 9; have y10 := y 10; have y11 := y 11; have y12 := y 12
        simp at y0 y1 y2 y3 y4 y5 y6 y7 y8 y9 y10 y11 y12
        have Hw1 := Lib.hid (Hw.out.trans (hb1.mono Hw.out.size))
        have Hat := Lib.hid (TxV.At.up (t := ⟨d0, n, 0, 2, none, 0, 0, none, 0, 0, [], []⟩) HAt.out hb1)
        clear T y hb1
        go_wp2_with fail
        refine (check_any ⟨d0, n, 0, 2, none, 0, 0, none, 0, 0, [], []⟩ w1 Hat.out).mono ?_
        rintro e w2 ⟨rfl, hb2⟩
        rw [Hc.out]
        have Hw2 := Lib.hid (Hw1.out.trans (hb2.mono Hw1.out.size))
        clear hb2
        go_wp2
        go_ret
        exact ⟨rfl, Hw2.out⟩
    · have b1 : decide (0 ≤ n) = false := decide_eq_false q1
      have Hc : Hid (checkT n 0 2 [] [] = 2) := chk_out (by simp [inT, upB, q1])
      clear q1
      go_enter Try.func4, Try.ntmps4
      go_wp2_with fail
      refine (known_any _).mono ?_
      rintro e w1 ⟨rfl, hb1⟩
      have T := block_below HT.out hb1 (block_lt HT.out)
      have y := block_cell T
      have y0 := y 0; have y1 := y 1; have y2 := y 2; have y3 := y 3; have y4 := y 4; have y5 := y 5; have y6 := y 6; have y7 := y 7; have y8 := y 8; have y9 := y 9; have y10 := y 10; have y11 := y 11; have y12 := y 12
      simp at y0 y1 y2 y3 y4 y5 y6 y7 y8 y9 y10 y11 y12
      have Hw1 := Lib.hid (Hw.out.trans (hb1.mono Hw.out.size))
      have Hat := Lib.hid (TxV.At.up (t := ⟨d0, n, 0, 2, none, 0, 0, none, 0, 0, [], []⟩) HAt.out hb1)
      clear T y hb1
      go_wp2_with fail
      refine (check_any ⟨d0, n, 0, 2, none, 0, 0, none, 0, 0, [], []⟩ w1 Hat.out).mono ?_
      rintro e w2 ⟨rfl, hb2⟩
      rw [Hc.out]
      have Hw2 := Lib.hid (Hw1.out.trans (hb2.mono Hw1.out.size))
      clear hb2
      go_wp2
      go_ret
      exact ⟨rfl, Hw2.out⟩
  · have HT := Lib.hid (heap_alloc_new w (.cells #[.int .u8 0, .int .u8 0, .int .u8 0, .int .u8 0, .int .u8 0, .int .u8 0, .int .u8 0, .int .u8 0, .int .i64 0, .int .i64 n, .int .i64 2, .slice none 0 0, .slice none 0 0] 26))
    have Hw := Lib.hid (below_one w (.cells #[.int .u8 0, .int .u8 0, .int .u8 0, .int .u8 0, .int .u8 0, .int .u8 0, .int .u8 0, .int .u8 0, .int .i64 0, .int .i64 n, .int .i64 2, .slice none 0 0, .slice none 0 0] 26))
    have HAt := Lib.hid (atNil 0 n 2 (w.alloc (.cells #[.int .u8 0, .int .u8 0, .int .u8 0, .int .u8 0, .int .u8 0, .int .u8 0, .int .u8 0, .int .u8 0, .int .i64 0, .int .i64 n, .int .i64 2, .slice none 0 0, .slice none 0 0] 26)))
    by_cases q1 : 0 ≤ n
    · have b1 : decide (0 ≤ n) = true := decide_eq_true q1
      by_cases q2 : n ≤ 1125899906842624
      · have b2 : decide (n ≤ 1125899906842624) = true := decide_eq_true q2
        have Hc : Hid (checkT 0 n 2 [] [] = 0) := chk_nil (by omega) (by simp [inT, upB, q1, q2])
        clear q1 q2
        go_enter Try.func4, Try.ntmps4
        go_wp2_with fail
        refine (known_any _).mono ?_
        rintro e w1 ⟨rfl, hb1⟩
        have T := block_below HT.out hb1 (block_lt HT.out)
        have y := block_cell T
        have y0 := y 0; have y1 := y 1; have y2 := y 2; have y3 := y 3; have y4 := y 4; have y5 := y 5; have y6 := y 6; have y7 := y 7; have y8 := y 8; have y9 := y 9; have y10 := y 10; have y11 := y 11; have y12 := y 12
        simp at y0 y1 y2 y3 y4 y5 y6 y7 y8 y9 y10 y11 y12
        have Hw1 := Lib.hid (Hw.out.trans (hb1.mono Hw.out.size))
        have Hat := Lib.hid (TxV.At.up (t := ⟨d0, 0, n, 2, none, 0, 0, none, 0, 0, [], []⟩) HAt.out hb1)
        clear T y hb1
        go_wp2_with fail
        refine (check_any ⟨d0, 0, n, 2, none, 0, 0, none, 0, 0, [], []⟩ w1 Hat.out).mono ?_
        rintro e w2 ⟨rfl, hb2⟩
        rw [Hc.out]
        have Hw2 := Lib.hid (Hw1.out.trans (hb2.mono Hw1.out.size))
        clear hb2
        go_wp2
        go_ret
        exact ⟨rfl, Hw2.out⟩
      · have b2 : decide (n ≤ 1125899906842624) = false := decide_eq_false q2
        have Hc : Hid (checkT 0 n 2 [] [] = 2) := chk_out (by simp [inT, upB, q1, q2])
        clear q1 q2
        go_enter Try.func4, Try.ntmps4
        go_wp2_with fail
        refine (known_any _).mono ?_
        rintro e w1 ⟨rfl, hb1⟩
        have T := block_below HT.out hb1 (block_lt HT.out)
        have y := block_cell T
        have y0 := y 0; have y1 := y 1; have y2 := y 2; have y3 := y 3; have y4 := y 4; have y5 := y 5; have y6 := y 6; have y7 := y 7; have y8 := y 8; have y9 := y 9; have y10 := y 10; have y11 := y 11; have y12 := y 12
        simp at y0 y1 y2 y3 y4 y5 y6 y7 y8 y9 y10 y11 y12
        have Hw1 := Lib.hid (Hw.out.trans (hb1.mono Hw.out.size))
        have Hat := Lib.hid (TxV.At.up (t := ⟨d0, 0, n, 2, none, 0, 0, none, 0, 0, [], []⟩) HAt.out hb1)
        clear T y hb1
        go_wp2_with fail
        refine (check_any ⟨d0, 0, n, 2, none, 0, 0, none, 0, 0, [], []⟩ w1 Hat.out).mono ?_
        rintro e w2 ⟨rfl, hb2⟩
        rw [Hc.out]
        have Hw2 := Lib.hid (Hw1.out.trans (hb2.mono Hw1.out.size))
        clear hb2
        go_wp2
        go_ret
        exact ⟨rfl, Hw2.out⟩
    · have b1 : decide (0 ≤ n) = false := decide_eq_false q1
      have Hc : Hid (checkT 0 n 2 [] [] = 2) := chk_out (by simp [inT, upB, q1])
      clear q1
      go_enter Try.func4, Try.ntmps4
      go_wp2_with fail
      refine (known_any _).mono ?_
      rintro e w1 ⟨rfl, hb1⟩
      have T := block_below HT.out hb1 (block_lt HT.out)
      have y := block_cell T
      have y0 := y 0; have y1 := y 1; have y2 := y 2; have y3 := y 3; have y4 := y 4; have y5 := y 5; have y6 := y 6; have y7 := y 7; have y8 := y 8; have y9 := y 9; have y10 := y 10; have y11 := y 11; have y12 := y 12
      simp at y0 y1 y2 y3 y4 y5 y6 y7 y8 y9 y10 y11 y12
      have Hw1 := Lib.hid (Hw.out.trans (hb1.mono Hw.out.size))
      have Hat := Lib.hid (TxV.At.up (t := ⟨d0, 0, n, 2, none, 0, 0, none, 0, 0, [], []⟩) HAt.out hb1)
      clear T y hb1
      go_wp2_with fail
      refine (check_any ⟨d0, 0, n, 2, none, 0, 0, none, 0, 0, [], []⟩ w1 Hat.out).mono ?_
      rintro e w2 ⟨rfl, hb2⟩
      rw [Hc.out]
      have Hw2 := Lib.hid (Hw1.out.trans (hb2.mono Hw1.out.size))
      clear hb2
      go_wp2
      go_ret
      exact ⟨rfl, Hw2.out⟩
  · obtain ⟨m, hm, hm9⟩ := wrapMod n 9 (by omega)
    have HT := Lib.hid (heap_alloc_new w (.cells #[.int .u8 0, .int .u8 0, .int .u8 0, .int .u8 0, .int .u8 0, .int .u8 0, .int .u8 0, .int .u8 0, .int .i64 0, .int .i64 0, .int .i64 (1 + (m : Int)), .slice none 0 0, .slice none 0 0] 26))
    have Hw := Lib.hid (below_one w (.cells #[.int .u8 0, .int .u8 0, .int .u8 0, .int .u8 0, .int .u8 0, .int .u8 0, .int .u8 0, .int .u8 0, .int .i64 0, .int .i64 0, .int .i64 (1 + (m : Int)), .slice none 0 0, .slice none 0 0] 26))
    have HAt := Lib.hid (atNil 0 0 (1 + (m : Int)) (w.alloc (.cells #[.int .u8 0, .int .u8 0, .int .u8 0, .int .u8 0, .int .u8 0, .int .u8 0, .int .u8 0, .int .u8 0, .int .i64 0, .int .i64 0, .int .i64 (1 + (m : Int)), .slice none 0 0, .slice none 0 0] 26)))
    by_cases q2 : 1 + (m : Int) ≤ 2
    · have b2 : decide (1 + (m : Int) ≤ 2) = true := decide_eq_true q2
      have Hc : Hid (checkT 0 0 (1 + (m : Int)) [] [] = 0) := chk_nil (by omega) (by simp [inT, upB]; omega)
      clear q2
      go_enter Try.func4, Try.ntmps4
      go_wp2_with fail
      refine (known_any _).mono ?_
      rintro e w1 ⟨rfl, hb1⟩
      have T := block_below HT.out hb1 (block_lt HT.out)
      have y := block_cell T
      have y0 := y 0; have y1 := y 1; have y2 := y 2; have y3 := y 3; have y4 := y 4; have y5 := y 5; have y6 := y 6; have y7 := y 7; have y8 := y 8; have y9 := y 9; have y10 := y 10; have y11 := y 11; have y12 := y 12
      simp at y0 y1 y2 y3 y4 y5 y6 y7 y8 y9 y10 y11 y12
      have Hw1 := Lib.hid (Hw.out.trans (hb1.mono Hw.out.size))
      have Hat := Lib.hid (TxV.At.up (t := ⟨d0, 0, 0, (1 + (m : Int)), none, 0, 0, none, 0, 0, [], []⟩) HAt.out hb1)
      clear T y hb1
      go_wp2_with fail
      refine (check_any ⟨d0, 0, 0, (1 + (m : Int)), none, 0, 0, none, 0, 0, [], []⟩ w1 Hat.out).mono ?_
      rintro e w2 ⟨rfl, hb2⟩
      rw [Hc.out]
      have Hw2 := Lib.hid (Hw1.out.trans (hb2.mono Hw1.out.size))
      clear hb2
      go_wp2
      go_ret
      exact ⟨rfl, Hw2.out⟩
    · have b2 : decide (1 + (m : Int) ≤ 2) = false := decide_eq_false q2
      have Hc : Hid (checkT 0 0 (1 + (m : Int)) [] [] = 2) := chk_out (by simp [inT, upB]; omega)
      clear q2
      go_enter Try.func4, Try.ntmps4
      go_wp2_with fail
      refine (known_any _).mono ?_
      rintro e w1 ⟨rfl, hb1⟩
      have T := block_below HT.out hb1 (block_lt HT.out)
      have y := block_cell T
      have y0 := y 0; have y1 := y 1; have y2 := y 2; have y3 := y 3; have y4 := y 4; have y5 := y 5; have y6 := y 6; have y7 := y 7; have y8 := y 8; have y9 := y 9; have y10 := y 10; have y11 := y 11; have y12 := y 12
      simp at y0 y1 y2 y3 y4 y5 y6 y7 y8 y9 y10 y11 y12
      have Hw1 := Lib.hid (Hw.out.trans (hb1.mono Hw.out.size))
      have Hat := Lib.hid (TxV.At.up (t := ⟨d0, 0, 0, (1 + (m : Int)), none, 0, 0, none, 0, 0, [], []⟩) HAt.out hb1)
      clear T y hb1
      go_wp2_with fail
      refine (check_any ⟨d0, 0, 0, (1 + (m : Int)), none, 0, 0, none, 0, 0, [], []⟩ w1 Hat.out).mono ?_
      rintro e w2 ⟨rfl, hb2⟩
      rw [Hc.out]
      have Hw2 := Lib.hid (Hw1.out.trans (hb2.mono Hw1.out.size))
      clear hb2
      go_wp2
      go_ret
      exact ⟨rfl, Hw2.out⟩
  · obtain ⟨i0, hi, hz0, hz1, hz2⟩ := info_parts info_u8
    have HI := Lib.hid (And.intro hi (And.intro hz0 (And.intro hz1 hz2))); clear hi hz0 hz1 hz2
    obtain ⟨m, hm, hm9⟩ := wrapMod n 20 (by omega)
    by_cases q2 : 32760 + (m : Int) ≤ 32768
    · have b2 : decide (32760 + (m : Int) ≤ 32768) = true := decide_eq_true q2
      have Hc : Hid (checkT 0 0 2 (List.replicate (32760 + m) 0) [] = 0) := by show _ = _; simp [checkT, inT, upB]; try omega
      clear q2
      go_enter Try.func4, Try.ntmps4
      go_wp2_with (at_make; go_must (refine wpList_make_full (w.alloc (.cells #[.int .u8 0, .int .u8 0, .int .u8 0, .int .u8 0, .int .u8 0, .int .u8 0, .int .u8 0, .int .u8 0, .int .i64 0, .int .i64 0, .int .i64 2, .slice none 0 0, .slice none 0 0] 26)) (by rfl) _ _ 24 (by rfl) (w.heap.size + 1) 5 i0 (.int .u8 0) 1 Try.underlying24 HI.out.1 HI.out.2.1 HI.out.2.2.1 .i64 .i64 _ _ (32760 + m) (by rfl) (by rfl) (by omega) (by omega) (by rw [HI.out.2.2.2]; omega) (by simp only [maxLen]; omega) (by simp) ?_); intro w3 hown3 hg3; rw [World.size_alloc] at hown3; have T3 := block_grown (heap_alloc_new w (.cells #[.int .u8 0, .int .u8 0, .int .u8 0, .int .u8 0, .int .u8 0, .int .u8 0, .int .u8 0, .int .u8 0, .int .i64 0, .int .i64 0, .int .i64 2, .slice none 0 0, .slice none 0 0] 26)) hg3 (by simp); have a11 := block_cell T3 11; have af := block_free T3; simp at a11; have HT := Lib.hid (Joins.block_setCell (i := 11) T3 (.slice (some ⟨w.heap.size + 1, 0, none⟩) (32760 + m) (32760 + m))); have Hw := Lib.hid (Below.setCell ((below_one w (.cells #[.int .u8 0, .int .u8 0, .int .u8 0, .int .u8 0, .int .u8 0, .int .u8 0, .int .u8 0, .int .u8 0, .int .i64 0, .int .i64 0, .int .i64 2, .slice none 0 0, .slice none 0 0] 26)).trans ((below_of_grown hg3 (Nat.le_refl _) (by simp)).mono (by simp))) (p := ⟨w.heap.size, 11, none⟩) (by simp) (.slice (some ⟨w.heap.size + 1, 0, none⟩) (32760 + m) (32760 + m))); have HAt := Lib.hid ((at_body (by omega)) (ownsRow_setCell_below hown3 (a := ⟨w.heap.size, 11, none⟩) (by show w.heap.size < _; omega) (.slice (some ⟨w.heap.size + 1, 0, none⟩) (32760 + m) (32760 + m)))); clear T3 hown3 hg3)
      go_wp2_with fail
      refine (known_any _).mono ?_
      rintro e w1 ⟨rfl, hb1⟩
      have T := block_below HT.out hb1 (block_lt HT.out)
      have y := block_cell T
      have y0 := y 0; have y1 := y 1; have y2 := y 2; have y3 := y 3; have y4 := y 4; have y5 := y 5; have y6 := y 6; have y7 := y 7; have y8 := y 8; have y9 := y 9; have y10 := y 10; have y11 := y 11; have y12 := y 12
      simp at y0 y1 y2 y3 y4 y5 y6 y7 y8 y9 y10 y11 y12
      have Hw1 := Lib.hid (Hw.out.trans (hb1.mono Hw.out.size))
      have Hat := Lib.hid (TxV.At.up (t := ⟨d0, 0, 0, 2, (some ⟨w.heap.size + 1, 0, none⟩), (32760 + m), (32760 + m), none, 0, 0, (List.replicate (32760 + m) 0), []⟩) HAt.out hb1)
      clear T y hb1
      go_wp2_with fail
      refine (check_any ⟨d0, 0, 0, 2, (some ⟨w.heap.size + 1, 0, none⟩), (32760 + m), (32760 + m), none, 0, 0, (List.replicate (32760 + m) 0), []⟩ w1 Hat.out).mono ?_
      rintro e w2 ⟨rfl, hb2⟩
      rw [Hc.out]
      have Hw2 := Lib.hid (Hw1.out.trans (hb2.mono Hw1.out.size))
      clear hb2
      go_wp2
      go_ret
      exact ⟨rfl, Hw2.out⟩
    · have b2 : decide (32760 + (m : Int) ≤ 32768) = false := decide_eq_false q2
      have Hc : Hid (checkT 0 0 2 (List.replicate (32760 + m) 0) [] = 2) := by show _ = _; simp [checkT, inT, upB]; try omega
      clear q2
      go_enter Try.func4, Try.ntmps4
      go_wp2_with (at_make; go_must (refine wpList_make_full (w.alloc (.cells #[.int .u8 0, .int .u8 0, .int .u8 0, .int .u8 0, .int .u8 0, .int .u8 0, .int .u8 0, .int .u8 0, .int .i64 0, .int .i64 0, .int .i64 2, .slice none 0 0, .slice none 0 0] 26)) (by rfl) _ _ 24 (by rfl) (w.heap.size + 1) 5 i0 (.int .u8 0) 1 Try.underlying24 HI.out.1 HI.out.2.1 HI.out.2.2.1 .i64 .i64 _ _ (32760 + m) (by rfl) (by rfl) (by omega) (by omega) (by rw [HI.out.2.2.2]; omega) (by simp only [maxLen]; omega) (by simp) ?_); intro w3 hown3 hg3; rw [World.size_alloc] at hown3; have T3 := block_grown (heap_alloc_new w (.cells #[.int .u8 0, .int .u8 0, .int .u8 0, .int .u8 0, .int .u8 0, .int .u8 0, .int .u8 0, .int .u8 0, .int .i64 0, .int .i64 0, .int .i64 2, .slice none 0 0, .slice none 0 0] 26)) hg3 (by simp); have a11 := block_cell T3 11; have af := block_free T3; simp at a11; have HT := Lib.hid (Joins.block_setCell (i := 11) T3 (.slice (some ⟨w.heap.size + 1, 0, none⟩) (32760 + m) (32760 + m))); have Hw := Lib.hid (Below.setCell ((below_one w (.cells #[.int .u8 0, .int .u8 0, .int .u8 0, .int .u8 0, .int .u8 0, .int .u8 0, .int .u8 0, .int .u8 0, .int .i64 0, .int .i64 0, .int .i64 2, .slice none 0 0, .slice none 0 0] 26)).trans ((below_of_grown hg3 (Nat.le_refl _) (by simp)).mono (by simp))) (p := ⟨w.heap.size, 11, none⟩) (by simp) (.slice (some ⟨w.heap.size + 1, 0, none⟩) (32760 + m) (32760 + m))); have HAt := Lib.hid ((at_body (by omega)) (ownsRow_setCell_below hown3 (a := ⟨w.heap.size, 11, none⟩) (by show w.heap.size < _; omega) (.slice (some ⟨w.heap.size + 1, 0, none⟩) (32760 + m) (32760 + m)))); clear T3 hown3 hg3)
      go_wp2_with fail
      refine (known_any _).mono ?_
      rintro e w1 ⟨rfl, hb1⟩
      have T := block_below HT.out hb1 (block_lt HT.out)
      have y := block_cell T
      have y0 := y 0; have y1 := y 1; have y2 := y 2; have y3 := y 3; have y4 := y 4; have y5 := y 5; have y6 := y 6; have y7 := y 7; have y8 := y 8; have y9 := y 9; have y10 := y 10; have y11 := y 11; have y12 := y 12
      simp at y0 y1 y2 y3 y4 y5 y6 y7 y8 y9 y10 y11 y12
      have Hw1 := Lib.hid (Hw.out.trans (hb1.mono Hw.out.size))
      have Hat := Lib.hid (TxV.At.up (t := ⟨d0, 0, 0, 2, (some ⟨w.heap.size + 1, 0, none⟩), (32760 + m), (32760 + m), none, 0, 0, (List.replicate (32760 + m) 0), []⟩) HAt.out hb1)
      clear T y hb1
      go_wp2_with fail
      refine (check_any ⟨d0, 0, 0, 2, (some ⟨w.heap.size + 1, 0, none⟩), (32760 + m), (32760 + m), none, 0, 0, (List.replicate (32760 + m) 0), []⟩ w1 Hat.out).mono ?_
      rintro e w2 ⟨rfl, hb2⟩
      rw [Hc.out]
      have Hw2 := Lib.hid (Hw1.out.trans (hb2.mono Hw1.out.size))
      clear hb2
      go_wp2
      go_ret
      exact ⟨rfl, Hw2.out⟩
  · obtain ⟨i0, hi, hz0, hz1, hz2⟩ := info_parts info_u8
    have HI := Lib.hid (And.intro hi (And.intro hz0 (And.intro hz1 hz2))); clear hi hz0 hz1 hz2
    obtain ⟨m, hm, hm9⟩ := wrapMod n 50 (by omega)
    by_cases q2 : 1000 + (m : Int) ≤ 1024
    · have b2 : decide (1000 + (m : Int) ≤ 1024) = true := decide_eq_true q2
      have Hc : Hid (checkT 0 0 2 [] (List.replicate (1000 + m) 0) = 0) := by show _ = _; simp [checkT, inT, upB]; try omega
      clear q2
      go_enter Try.func4, Try.ntmps4
      go_wp2_with (at_make; go_must (refine wpList_make_full (w.alloc (.cells #[.int .u8 0, .int .u8 0, .int .u8 0, .int .u8 0, .int .u8 0, .int .u8 0, .int .u8 0, .int .u8 0, .int .i64 0, .int .i64 0, .int .i64 2, .slice none 0 0, .slice none 0 0] 26)) (by rfl) _ _ 24 (by rfl) (w.heap.size + 1) 5 i0 (.int .u8 0) 1 Try.underlying24 HI.out.1 HI.out.2.1 HI.out.2.2.1 .i64 .i64 _ _ (1000 + m) (by rfl) (by rfl) (by omega) (by omega) (by rw [HI.out.2.2.2]; omega) (by simp only [maxLen]; omega) (by simp) ?_); intro w3 hown3 hg3; rw [World.size_alloc] at hown3; have T3 := block_grown (heap_alloc_new w (.cells #[.int .u8 0, .int .u8 0, .int .u8 0, .int .u8 0, .int .u8 0, .int .u8 0, .int .u8 0, .int .u8 0, .int .i64 0, .int .i64 0, .int .i64 2, .slice none 0 0, .slice none 0 0] 26)) hg3 (by simp); have a11 := block_cell T3 12; have af := block_free T3; simp at a11; have HT := Lib.hid (Joins.block_setCell (i := 12) T3 (.slice (some ⟨w.heap.size + 1, 0, none⟩) (1000 + m) (1000 + m))); have Hw := Lib.hid (Below.setCell ((below_one w (.cells #[.int .u8 0, .int .u8 0, .int .u8 0, .int .u8 0, .int .u8 0, .int .u8 0, .int .u8 0, .int .u8 0, .int .i64 0, .int .i64 0, .int .i64 2, .slice none 0 0, .slice none 0 0] 26)).trans ((below_of_grown hg3 (Nat.le_refl _) (by simp)).mono (by simp))) (p := ⟨w.heap.size, 12, none⟩) (by simp) (.slice (some ⟨w.heap.size + 1, 0, none⟩) (1000 + m) (1000 + m))); have HAt := Lib.hid ((at_sig (by omega)) (ownsRow_setCell_below hown3 (a := ⟨w.heap.size, 12, none⟩) (by show w.heap.size < _; omega) (.slice (some ⟨w.heap.size + 1, 0, none⟩) (1000 + m) (1000 + m)))); clear T3 hown3 hg3)
      go_wp2_with fail
      refine (known_any _).mono ?_
      rintro e w1 ⟨rfl, hb1⟩
      have T := block_below HT.out hb1 (block_lt HT.out)
      have y := block_cell T
      have y0 := y 0; have y1 := y 1; have y2 := y 2; have y3 := y 3; have y4 := y 4; have y5 := y 5; have y6 := y 6; have y7 := y 7; have y8 := y 8; have y9 := y 9; have y10 := y 10; have y11 := y 11; have y12 := y 12
      simp at y0 y1 y2 y3 y4 y5 y6 y7 y8 y9 y10 y11 y12
      have Hw1 := Lib.hid (Hw.out.trans (hb1.mono Hw.out.size))
      have Hat := Lib.hid (TxV.At.up (t := ⟨d0, 0, 0, 2, none, 0, 0, (some ⟨w.heap.size + 1, 0, none⟩), (1000 + m), (1000 + m), [], (List.replicate (1000 + m) 0)⟩) HAt.out hb1)
      clear T y hb1
      go_wp2_with fail
      refine (check_any ⟨d0, 0, 0, 2, none, 0, 0, (some ⟨w.heap.size + 1, 0, none⟩), (1000 + m), (1000 + m), [], (List.replicate (1000 + m) 0)⟩ w1 Hat.out).mono ?_
      rintro e w2 ⟨rfl, hb2⟩
      rw [Hc.out]
      have Hw2 := Lib.hid (Hw1.out.trans (hb2.mono Hw1.out.size))
      clear hb2
      go_wp2
      go_ret
      exact ⟨rfl, Hw2.out⟩
    · have b2 : decide (1000 + (m : Int) ≤ 1024) = false := decide_eq_false q2
      have Hc : Hid (checkT 0 0 2 [] (List.replicate (1000 + m) 0) = 2) := by show _ = _; simp [checkT, inT, upB]; try omega
      clear q2
      go_enter Try.func4, Try.ntmps4
      go_wp2_with (at_make; go_must (refine wpList_make_full (w.alloc (.cells #[.int .u8 0, .int .u8 0, .int .u8 0, .int .u8 0, .int .u8 0, .int .u8 0, .int .u8 0, .int .u8 0, .int .i64 0, .int .i64 0, .int .i64 2, .slice none 0 0, .slice none 0 0] 26)) (by rfl) _ _ 24 (by rfl) (w.heap.size + 1) 5 i0 (.int .u8 0) 1 Try.underlying24 HI.out.1 HI.out.2.1 HI.out.2.2.1 .i64 .i64 _ _ (1000 + m) (by rfl) (by rfl) (by omega) (by omega) (by rw [HI.out.2.2.2]; omega) (by simp only [maxLen]; omega) (by simp) ?_); intro w3 hown3 hg3; rw [World.size_alloc] at hown3; have T3 := block_grown (heap_alloc_new w (.cells #[.int .u8 0, .int .u8 0, .int .u8 0, .int .u8 0, .int .u8 0, .int .u8 0, .int .u8 0, .int .u8 0, .int .i64 0, .int .i64 0, .int .i64 2, .slice none 0 0, .slice none 0 0] 26)) hg3 (by simp); have a11 := block_cell T3 12; have af := block_free T3; simp at a11; have HT := Lib.hid (Joins.block_setCell (i := 12) T3 (.slice (some ⟨w.heap.size + 1, 0, none⟩) (1000 + m) (1000 + m))); have Hw := Lib.hid (Below.setCell ((below_one w (.cells #[.int .u8 0, .int .u8 0, .int .u8 0, .int .u8 0, .int .u8 0, .int .u8 0, .int .u8 0, .int .u8 0, .int .i64 0, .int .i64 0, .int .i64 2, .slice none 0 0, .slice none 0 0] 26)).trans ((below_of_grown hg3 (Nat.le_refl _) (by simp)).mono (by simp))) (p := ⟨w.heap.size, 12, none⟩) (by simp) (.slice (some ⟨w.heap.size + 1, 0, none⟩) (1000 + m) (1000 + m))); have HAt := Lib.hid ((at_sig (by omega)) (ownsRow_setCell_below hown3 (a := ⟨w.heap.size, 12, none⟩) (by show w.heap.size < _; omega) (.slice (some ⟨w.heap.size + 1, 0, none⟩) (1000 + m) (1000 + m)))); clear T3 hown3 hg3)
      go_wp2_with fail
      refine (known_any _).mono ?_
      rintro e w1 ⟨rfl, hb1⟩
      have T := block_below HT.out hb1 (block_lt HT.out)
      have y := block_cell T
      have y0 := y 0; have y1 := y 1; have y2 := y 2; have y3 := y 3; have y4 := y 4; have y5 := y 5; have y6 := y 6; have y7 := y 7; have y8 := y 8; have y9 := y 9; have y10 := y 10; have y11 := y 11; have y12 := y 12
      simp at y0 y1 y2 y3 y4 y5 y6 y7 y8 y9 y10 y11 y12
      have Hw1 := Lib.hid (Hw.out.trans (hb1.mono Hw.out.size))
      have Hat := Lib.hid (TxV.At.up (t := ⟨d0, 0, 0, 2, none, 0, 0, (some ⟨w.heap.size + 1, 0, none⟩), (1000 + m), (1000 + m), [], (List.replicate (1000 + m) 0)⟩) HAt.out hb1)
      clear T y hb1
      go_wp2_with fail
      refine (check_any ⟨d0, 0, 0, 2, none, 0, 0, (some ⟨w.heap.size + 1, 0, none⟩), (1000 + m), (1000 + m), [], (List.replicate (1000 + m) 0)⟩ w1 Hat.out).mono ?_
      rintro e w2 ⟨rfl, hb2⟩
      rw [Hc.out]
      have Hw2 := Lib.hid (Hw1.out.trans (hb2.mono Hw1.out.size))
      clear hb2
      go_wp2
      go_ret
      exact ⟨rfl, Hw2.out⟩
end Go.Proofs.Ytebepgoaofhelaa
