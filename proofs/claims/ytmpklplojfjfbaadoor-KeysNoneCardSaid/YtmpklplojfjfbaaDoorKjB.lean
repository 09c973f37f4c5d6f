/- The walk of KeysNone. Condition: none. -/
import Derived.Test.YtmpklplojfjfbaaDoorKjA
import Derived.Test.YtmpklplojfjfbaaDoorKfB
namespace Go.Proofs.YtmpklplojfjfbaaDoor
open Go.RowKit Go.Lib




theorem neq_from8 {P : Program} {t : TypeId} {xs ys : Array Value} {b : Bool} (h : ∀ u, (binOp .eql t (.agg xs) (.agg ys)).run P u = .ok (.bool b) u) : ∀ u, (binOp .neq t (.agg xs) (.agg ys)).run P u = .ok (.bool (!b)) u := by
  intro u
  have := h u
  rw [run_eql_struct] at this
  rw [run_neq_struct]
  revert this
  cases (Op.equalIn 10000 t (.agg xs) (.agg ys)).run P u <;> simp [Result.andThen]
theorem neq_zero : ∀ u, (binOp .neq 27 (.agg #[.int .u8 0, .int .u8 0, .int .u8 0, .int .u8 0, .int .u8 0, .int .u8 0, .int .u8 0, .int .u8 0]) (.agg #[.int .u8 0, .int .u8 0, .int .u8 0, .int .u8 0, .int .u8 0, .int .u8 0, .int .u8 0, .int .u8 0])).run Tryd.prog u = .ok (.bool false) u := by
  have h : ∀ u, (binOp .eql 27 (.agg #[.int .u8 0, .int .u8 0, .int .u8 0, .int .u8 0, .int .u8 0, .int .u8 0, .int .u8 0, .int .u8 0]) (.agg #[.int .u8 0, .int .u8 0, .int .u8 0, .int .u8 0, .int .u8 0, .int .u8 0, .int .u8 0, .int .u8 0])).run Tryd.prog u = .ok (.bool true) u := fun u => eql_dig _ _ _ _ _ _ _ _ _ _ _ _ _ _ _ _ u
  exact neq_from8 h
theorem res_first (s m : D8) (q : Nat) : (RingM.new s q).reserve m = (⟨s, q, [m]⟩, 0, 0) := by
  have hp : posD [] m = none := rfl
  have := Nat.two_pow_pos q
  unfold RingM.reserve RingM.new
  simp only [hp]
  rw [if_neg (by simp only [List.length_nil]; omega)]
  rfl
set_option maxRecDepth 100000 in
set_option maxHeartbeats 16000000 in
theorem knone_any (s m : D8) (ht : Int) (w : World) (hs : s.ok) (hm : m.ok) :
    Calls Tryd.prog 3 #[.agg #[.int .u8 (s.x0 : Int), .int .u8 (s.x1 : Int), .int .u8 (s.x2 : Int), .int .u8 (s.x3 : Int), .int .u8 (s.x4 : Int), .int .u8 (s.x5 : Int), .int .u8 (s.x6 : Int), .int .u8 (s.x7 : Int)], .agg #[.int .u8 (m.x0 : Int), .int .u8 (m.x1 : Int), .int .u8 (m.x2 : Int), .int .u8 (m.x3 : Int), .int .u8 (m.x4 : Int), .int .u8 (m.x5 : Int), .int .u8 (m.x6 : Int), .int .u8 (m.x7 : Int)], .int .i64 ht] w fun e w' => e = .returned (.bool true) ∧ Below w.heap.size w w' := by
  obtain ⟨hs0, hm0, hw0, hz0⟩ := alloc2 w (.cells #[.int .u8 (s.x0 : Int), .int .u8 (s.x1 : Int), .int .u8 (s.x2 : Int), .int .u8 (s.x3 : Int), .int .u8 (s.x4 : Int), .int .u8 (s.x5 : Int), .int .u8 (s.x6 : Int), .int .u8 (s.x7 : Int)] 22) (.cells #[.int .u8 (m.x0 : Int), .int .u8 (m.x1 : Int), .int .u8 (m.x2 : Int), .int .u8 (m.x3 : Int), .int .u8 (m.x4 : Int), .int .u8 (m.x5 : Int), .int .u8 (m.x6 : Int), .int .u8 (m.x7 : Int)] 22)
  have HS0 := Lib.hid hs0; have HM0 := Lib.hid hm0; have Hw0 := Lib.hid hw0
  have Hs := Lib.hid hs; have Hm := Lib.hid hm
  clear hs0 hm0 hw0 hz0 hs hm
  by_cases hneg : ht < 0
  · have d1 : decide ((0 : Int) ≤ ht) = false := decide_eq_false (by omega)
    have Hn1 := Lib.hid (fun v => new_bad s (max (min ht 3) (-2)) v (Or.inl (by omega)))
    have Hn2 := Lib.hid (fun v => new_bad s (max ht 9) v (Or.inr (by omega)))
    clear hneg
    go_enter Tryd.func3, Tryd.ntmps3
    go_upto_region 1 with fail
    generalize (w.alloc (.cells #[.int .u8 (s.x0 : Int), .int .u8 (s.x1 : Int), .int .u8 (s.x2 : Int), .int .u8 (s.x3 : Int), .int .u8 (s.x4 : Int), .int .u8 (s.x5 : Int), .int .u8 (s.x6 : Int), .int .u8 (s.x7 : Int)] 22)).alloc (.cells #[.int .u8 (m.x0 : Int), .int .u8 (m.x1 : Int), .int .u8 (m.x2 : Int), .int .u8 (m.x3 : Int), .int .u8 (m.x4 : Int), .int .u8 (m.x5 : Int), .int .u8 (m.x6 : Int), .int .u8 (m.x7 : Int)] 22) = v0 at *
    obtain ⟨zf, r0, r1, r2, r3, r4, r5, r6, r7⟩ := free8 HS0.out
    have hl0 := block_lt HS0.out
    clear zf
    go_wp2_with fail
    refine (Hn1.out v0).mono ?_
    rintro e v1 ⟨rfl, hb1⟩
    have HS1 := Lib.hid (block_below HS0.out hb1 hl0); have HM1 := Lib.hid (block_below HM0.out hb1 (block_lt HM0.out)); have Hw1 := Lib.hid (Hw0.out.trans (hb1.mono Hw0.out.size))
    clear r0 r1 r2 r3 r4 r5 r6 r7 hb1 HS0 HM0 Hw0 hl0
    go_wp2_with fail
    refine (known_any v1).mono ?_
    rintro e v2 ⟨rfl, hb2⟩
    have HS2 := Lib.hid (block_below HS1.out hb2 (block_lt HS1.out)); have HM2 := Lib.hid (block_below HM1.out hb2 (block_lt HM1.out)); have Hw2 := Lib.hid (Hw1.out.trans (hb2.mono Hw1.out.size))
    clear hb2 HS1 HM1 Hw1
    obtain ⟨zf, r0, r1, r2, r3, r4, r5, r6, r7⟩ := free8 HS2.out
    have hl0 := block_lt HS2.out
    clear zf
    go_wp2_with fail
    refine (Hn2.out v2).mono ?_
    rintro e n0 ⟨rfl, hb3⟩
    have HMA := Lib.hid (block_below HM2.out hb3 (block_lt HM2.out)); have HwA := Lib.hid (Hw2.out.trans (hb3.mono Hw2.out.size))
    have Hvn0 : Hid (Below n0.heap.size n0 n0) := Lib.hid (Below.refl _ _)
    clear r0 r1 r2 r3 r4 r5 r6 r7 hb3 HS2 HM2 Hw2 hl0
    obtain ⟨zf, r0, r1, r2, r3, r4, r5, r6, r7⟩ := free8 (block_below HMA.out Hvn0.out (block_lt HMA.out))
    have hlm : w.heap.size + 1 < n0.heap.size := Nat.lt_of_lt_of_le (block_lt HMA.out) Hvn0.out.size
    clear zf
    go_wp2_with fail
    refine (reserve_nil m n0).mono ?_
    rintro e n1 ⟨rfl, hbn⟩
    have Hvn1 := Lib.hid (Hvn0.out.trans (hbn.mono Hvn0.out.size))
    clear hbn Hvn0 r0 r1 r2 r3 r4 r5 r6 r7 hlm
    obtain ⟨zf, r0, r1, r2, r3, r4, r5, r6, r7⟩ := free8 (block_below HMA.out Hvn1.out (block_lt HMA.out))
    have hlm : w.heap.size + 1 < n1.heap.size := Nat.lt_of_lt_of_le (block_lt HMA.out) Hvn1.out.size
    clear zf
    go_wp2_with fail
    refine (sign_nil m n1).mono ?_
    rintro e n2 ⟨rfl, hbn⟩
    have Hvn2 := Lib.hid (Hvn1.out.trans (hbn.mono Hvn1.out.size))
    clear hbn Hvn1 r0 r1 r2 r3 r4 r5 r6 r7 hlm
    obtain ⟨zf, r0, r1, r2, r3, r4, r5, r6, r7⟩ := free8 (block_below HMA.out Hvn2.out (block_lt HMA.out))
    have hlm : w.heap.size + 1 < n2.heap.size := Nat.lt_of_lt_of_le (block_lt HMA.out) Hvn2.out.size
    clear zf
    go_wp2_with fail
    refine (leaf_nil m n2).mono ?_
    rintro e n3 ⟨rfl, hbn⟩
    have Hvn3 := Lib.hid (Hvn2.out.trans (hbn.mono Hvn2.out.size))
    clear hbn Hvn2 r0 r1 r2 r3 r4 r5 r6 r7 hlm
    go_wp2_with fail
    refine (used_nil n3).mono ?_
    rintro e n4 ⟨rfl, hbn⟩
    have Hvn4 := Lib.hid (Hvn3.out.trans (hbn.mono Hvn3.out.size))
    clear hbn Hvn3
    go_wp2_with fail
    refine (left_nil n4).mono ?_
    rintro e n5 ⟨rfl, hbn⟩
    have Hvn5 := Lib.hid (Hvn4.out.trans (hbn.mono Hvn4.out.size))
    clear hbn Hvn4
    go_wp2_with fail
    refine (ledger_nil n5).mono ?_
    rintro e n6 ⟨rfl, hbn⟩
    have Hvn6 := Lib.hid (Hvn5.out.trans (hbn.mono Hvn5.out.size))
    clear hbn Hvn5
    go_wp2_with fail
    refine (save_nil n6).mono ?_
    rintro e n7 ⟨rfl, hbn⟩
    have Hvn7 := Lib.hid (Hvn6.out.trans (hbn.mono Hvn6.out.size))
    clear hbn Hvn6
    go_wp2_with fail
    refine (clone_nil n7).mono ?_
    rintro e n8 ⟨rfl, hbn⟩
    have Hvn8 := Lib.hid (Hvn7.out.trans (hbn.mono Hvn7.out.size))
    clear hbn Hvn7
    go_wp2_with fail
    refine (same_nn n8).mono ?_
    rintro e n9 ⟨rfl, hbn⟩
    have Hvn9 := Lib.hid (Hvn8.out.trans (hbn.mono Hvn8.out.size))
    clear hbn Hvn8
    go_wp2_with fail
    refine (public_nil n9).mono ?_
    rintro e n10 ⟨rfl, hbn⟩
    have Hvn10 := Lib.hid (Hvn9.out.trans (hbn.mono Hvn9.out.size))
    clear hbn Hvn9
    have hnz := neq_zero
    go_wp2
    go_ret
    exact ⟨rfl, HwA.out.trans (Hvn10.out.mono HwA.out.size)⟩
  · obtain ⟨q, hq, hq3⟩ : ∃ q : Nat, max (min ht 3) (-2) = (q : Int) ∧ q ≤ 8 := ⟨(min ht 3).toNat, by omega, by omega⟩
    have d1 : decide ((0 : Int) ≤ ht) = true := decide_eq_true (by omega)
    have Hn1 : Hid (∀ v : World, Calls Tryd.prog 5 #[.agg #[.int .u8 (s.x0 : Int), .int .u8 (s.x1 : Int), .int .u8 (s.x2 : Int), .int .u8 (s.x3 : Int), .int .u8 (s.x4 : Int), .int .u8 (s.x5 : Int), .int .u8 (s.x6 : Int), .int .u8 (s.x7 : Int)], .int .i64 (max (min ht 3) (-2))] v fun e v' => ∃ br F T0 T1, e = .returned (.tuple #[.pointer (some ⟨br, 0, none⟩), .int .i64 0]) ∧ RingAt v' v.heap.size F T0 T1 br (RingM.new s q) ∧ Below v.heap.size v v') := Lib.hid fun v => by
      rw [hq]
      exact new_any s q v Hs.out hq3
    have Hn2 := Lib.hid (fun v => new_bad s (max ht 9) v (Or.inr (by omega)))
    have Hres := Lib.hid (res_first s m q)
    clear hneg hq
    go_enter Tryd.func3, Tryd.ntmps3
    go_upto_region 1 with fail
    generalize (w.alloc (.cells #[.int .u8 (s.x0 : Int), .int .u8 (s.x1 : Int), .int .u8 (s.x2 : Int), .int .u8 (s.x3 : Int), .int .u8 (s.x4 : Int), .int .u8 (s.x5 : Int), .int .u8 (s.x6 : Int), .int .u8 (s.x7 : Int)] 22)).alloc (.cells #[.int .u8 (m.x0 : Int), .int .u8 (m.x1 : Int), .int .u8 (m.x2 : Int), .int .u8 (m.x3 : Int), .int .u8 (m.x4 : Int), .int .u8 (m.x5 : Int), .int .u8 (m.x6 : Int), .int .u8 (m.x7 : Int)] 22) = v0 at *
    obtain ⟨zf, r0, r1, r2, r3, r4, r5, r6, r7⟩ := free8 HS0.out
    have hl0 := block_lt HS0.out
    clear zf
    go_wp2_with fail
    refine (Hn1.out v0).mono ?_
    rintro e v1 ⟨br, F, T0, T1, rfl, ha1, hb1⟩
    have HA1 := Lib.hid ha1
    have HS1 := Lib.hid (block_below HS0.out hb1 hl0); have HM1 := Lib.hid (block_below HM0.out hb1 (block_lt HM0.out)); have Hw1 := Lib.hid (Hw0.out.trans (hb1.mono Hw0.out.size)); have Hw0s := Lib.hid Hw0.out.size; have Hbml := Lib.hid (block_lt HM0.out)
    clear r0 r1 r2 r3 r4 r5 r6 r7 ha1 hb1 HS0 HM0 Hw0 hl0
    generalize v0.heap.size = B at *
    go_wp2_with fail
    refine (known_any v1).mono ?_
    rintro e v2 ⟨rfl, hb2⟩
    have HS2 := Lib.hid (block_below HS1.out hb2 (block_lt HS1.out)); have HM2 := Lib.hid (block_below HM1.out hb2 (block_lt HM1.out)); have Hw2 := Lib.hid (Hw1.out.trans (hb2.mono Hw1.out.size)); have HA2 := Lib.hid (HA1.out.below hb2)
    clear hb2 HS1 HM1 Hw1 HA1
    obtain ⟨zf, r0, r1, r2, r3, r4, r5, r6, r7⟩ := free8 HS2.out
    have hl0 := block_lt HS2.out
    clear zf
    go_wp2_with fail
    refine (Hn2.out v2).mono ?_
    rintro e n0 ⟨rfl, hb3⟩
    have HMA := Lib.hid (block_below HM2.out hb3 (block_lt HM2.out)); have HwA := Lib.hid (Hw2.out.trans (hb3.mono Hw2.out.size)); have HA3 := Lib.hid (HA2.out.below hb3)
    have Hvn0 : Hid (Below n0.heap.size n0 n0) := Lib.hid (Below.refl _ _)
    clear r0 r1 r2 r3 r4 r5 r6 r7 hb3 HS2 HM2 Hw2 HA2 hl0
    obtain ⟨zf, r0, r1, r2, r3, r4, r5, r6, r7⟩ := free8 (block_below HMA.out Hvn0.out (block_lt HMA.out))
    have hlm : w.heap.size + 1 < n0.heap.size := Nat.lt_of_lt_of_le (block_lt HMA.out) Hvn0.out.size
    clear zf
    go_wp2_with fail
    refine (reserve_nil m n0).mono ?_
    rintro e n1 ⟨rfl, hbn⟩
    have Hvn1 := Lib.hid (Hvn0.out.trans (hbn.mono Hvn0.out.size))
    clear hbn Hvn0 r0 r1 r2 r3 r4 r5 r6 r7 hlm
    obtain ⟨zf, r0, r1, r2, r3, r4, r5, r6, r7⟩ := free8 (block_below HMA.out Hvn1.out (block_lt HMA.out))
    have hlm : w.heap.size + 1 < n1.heap.size := Nat.lt_of_lt_of_le (block_lt HMA.out) Hvn1.out.size
    clear zf
    go_wp2_with fail
    refine (sign_nil m n1).mono ?_
    rintro e n2 ⟨rfl, hbn⟩
    have Hvn2 := Lib.hid (Hvn1.out.trans (hbn.mono Hvn1.out.size))
    clear hbn Hvn1 r0 r1 r2 r3 r4 r5 r6 r7 hlm
    obtain ⟨zf, r0, r1, r2, r3, r4, r5, r6, r7⟩ := free8 (block_below HMA.out Hvn2.out (block_lt HMA.out))
    have hlm : w.heap.size + 1 < n2.heap.size := Nat.lt_of_lt_of_le (block_lt HMA.out) Hvn2.out.size
    clear zf
    go_wp2_with fail
    refine (leaf_nil m n2).mono ?_
    rintro e n3 ⟨rfl, hbn⟩
    have Hvn3 := Lib.hid (Hvn2.out.trans (hbn.mono Hvn2.out.size))
    clear hbn Hvn2 r0 r1 r2 r3 r4 r5 r6 r7 hlm
    go_wp2_with fail
    refine (used_nil n3).mono ?_
    rintro e n4 ⟨rfl, hbn⟩
    have Hvn4 := Lib.hid (Hvn3.out.trans (hbn.mono Hvn3.out.size))
    clear hbn Hvn3
    go_wp2_with fail
    refine (left_nil n4).mono ?_
    rintro e n5 ⟨rfl, hbn⟩
    have Hvn5 := Lib.hid (Hvn4.out.trans (hbn.mono Hvn4.out.size))
    clear hbn Hvn4
    go_wp2_with fail
    refine (ledger_nil n5).mono ?_
    rintro e n6 ⟨rfl, hbn⟩
    have Hvn6 := Lib.hid (Hvn5.out.trans (hbn.mono Hvn5.out.size))
    clear hbn Hvn5
    go_wp2_with fail
    refine (save_nil n6).mono ?_
    rintro e n7 ⟨rfl, hbn⟩
    have Hvn7 := Lib.hid (Hvn6.out.trans (hbn.mono Hvn6.out.size))
    clear hbn Hvn6
    go_wp2_with fail
    refine (clone_nil n7).mono ?_
    rintro e n8 ⟨rfl, hbn⟩
    have Hvn8 := Lib.hid (Hvn7.out.trans (hbn.mono Hvn7.out.size))
    clear hbn Hvn7
    go_wp2_with fail
    refine (same_nn n8).mono ?_
    rintro e n9 ⟨rfl, hbn⟩
    have Hvn9 := Lib.hid (Hvn8.out.trans (hbn.mono Hvn8.out.size))
    clear hbn Hvn8
    go_wp2_with fail
    refine (public_nil n9).mono ?_
    rintro e n10 ⟨rfl, hbn⟩
    have Hvn10 := Lib.hid (Hvn9.out.trans (hbn.mono Hvn9.out.size))
    clear hbn Hvn9
    have hnz := neq_zero
    have HA4 := Lib.hid (HA3.out.below Hvn10.out); have HM4 := Lib.hid (block_below HMA.out Hvn10.out (block_lt HMA.out)); have Hw4 := Lib.hid (HwA.out.trans (Hvn10.out.mono HwA.out.size))
    obtain ⟨zf, r0, r1, r2, r3, r4, r5, r6, r7⟩ := free8 HM4.out
    have hl0 := block_lt HM4.out
    clear zf HA3 HMA HwA Hvn10
    go_wp2_with fail
    refine (reserve_any m HA4.out Hm.out HA4.out.hB).mono ?_
    rintro e u1 ⟨rfl, hc1, ha1⟩
    rw [Hres.out] at ha1 ⊢
    have Hlo := Lib.hid (fun g (hg : foot F T0 T1 g) => HA4.out.foot_lt g hg)
    have HA5 := Lib.hid ha1
    have HM5 := Lib.hid ((hc1.block (w.heap.size + 1) hl0 (fun hf => by have := (Hlo.out _ (.inl hf)).1; have := Hbml.out; omega)).trans HM4.out)
    have Hw5 := Lib.hid (Hw4.out.trans (hc1.below (fun g hg => Nat.le_trans Hw0s.out (Hlo.out g (.inl hg)).1) Hw4.out.size))
    clear hnz r0 r1 r2 r3 r4 r5 r6 r7 hl0 hc1 ha1 HA4 HM4 Hw4 Hres Hlo
    generalize more F n10 u1 = F2 at *
    go_wp2_with fail
    refine (ledger_any (HA5.out.led.choose_spec.choose_spec.1) (by simp)).mono ?_
    rintro e u2 ⟨A2, c2, rfl, ho2, hb2⟩
    have Ho2 : Hid (u2.ownsRow u1.heap.size 27 8 (.slice A2 1 c2) 1 (flatD [m])) := Lib.hid ho2
    have HA6 := Lib.hid (HA5.out.below hb2); have HM6 := Lib.hid (block_below HM5.out hb2 (block_lt HM5.out)); have Hw6 := Lib.hid (Hw5.out.trans (hb2.mono Hw5.out.size)); have Hl5 := Lib.hid (fun g (hg : foot F2 T0 T1 g) => (HA5.out.foot_lt g hg).2); have Hl5w := Lib.hid Hw5.out.size; have Hl5m := Lib.hid (block_lt HM5.out)
    clear ho2 hb2 HA5 HM5 Hw5
    rw [show (Value.slice A2 (RingM.mk s q [m]).led.length c2) = Value.slice A2 1 c2 from rfl]
    obtain ⟨g, rfl, hgb, hgo⟩ : ∃ g, A2 = some ⟨g, 0, none⟩ ∧ u1.heap.size ≤ g ∧ ∃ cur : Array Value, u2.heap[g]? = some (.cells cur 27 (0, 0)) := by
      rcases Ho2.out.2 with ⟨hv, _⟩ | ⟨g, cap, cur, hv, hb, hg, _⟩
      · cases hv
      · injection hv with e1
        exact ⟨g, e1, hb, cur, hg⟩
    obtain ⟨cur, hgc⟩ := hgo
    have Hgc := Lib.hid hgc; have Hgb := Lib.hid hgb
    have x0 : u2.cell? ⟨g, 0, none⟩ = some (.int .u8 (m.x0 : Int)) := by
      obtain ⟨b, o, e, _, y0, _⟩ := (Rd.of_own Ho2.out).di8 (k := 0) (by decide)
      injection e with e
      injection e with e1 e2
      subst e1; subst e2
      simpa using y0
    have X0 := Lib.hid x0
    clear x0 hgc hgb
    go_wp2_with fail
    refine (same_nr ⟨br, 0, none⟩ u2).mono ?_
    rintro e u3 ⟨rfl, hb3⟩
    have x0 := (hb3.cell (p := ⟨g, 0, none⟩) (block_lt Hgc.out)).trans X0.out
    have hgc3 := block_below Hgc.out hb3 (block_lt Hgc.out)
    have hgf := block_free hgc3
    have hgl := block_lt hgc3
    have HA7 := Lib.hid (HA6.out.below hb3); have HM7 := Lib.hid (block_below HM6.out hb3 (block_lt HM6.out)); have Hw7 := Lib.hid (Hw6.out.trans (hb3.mono Hw6.out.size))
    clear hb3 HA6 HM6 Hw6 X0 Hgc hgc3 Ho2
    have hb4 : Below u1.heap.size u3 (u3.setCell ⟨g, 0, none⟩ (.int .u8 (((m.x0 : Int) + 1) % 256))) := ⟨rfl, rfl, rfl, by simp, fun k hk => Below.heap_setCell u3 ⟨g, 0, none⟩ _ k (fun e => by have := Hgb.out; have e2 : k = g := e; omega)⟩
    have Hb4 := Lib.hid hb4
    clear hb4
    go_wp2_with fail
    go_region
    generalize u3.setCell ⟨g, 0, none⟩ (.int .u8 (((m.x0 : Int) + 1) % 256)) = u4 at *
    have hbd := Hb4.out.drew
    have HA8 := Lib.hid (HA7.out.kept hbd.size (fun k hk => hbd.block k (Hl5.out k hk)))
    have HM8 := Lib.hid ((hbd.block _ Hl5m.out).trans HM7.out)
    have Hw8 := Lib.hid (Hw7.out.trans (hbd.mono Hl5w.out))
    clear x0 hgf hgl hbd HA7 HM7 Hw7 Hb4
    generalize u4.drew = u5 at *
    have hbl : w.heap.size + 1 < u5.heap.size := block_lt HM8.out
    have hX : ∀ w', Below u5.heap.size u5 w' → (Instr.loadAt 22 (.pointer (some ⟨w.heap.size + 1, 0, none⟩))).run Tryd.prog w' = .ok (.agg #[.int .u8 (m.x0 : Int), .int .u8 (m.x1 : Int), .int .u8 (m.x2 : Int), .int .u8 (m.x3 : Int), .int .u8 (m.x4 : Int), .int .u8 (m.x5 : Int), .int .u8 (m.x6 : Int), .int .u8 (m.x7 : Int)]) w' := fun w' h => load_d8 (block_below HM8.out h hbl)
    have hG : ∀ (x y : Operand) u, (eqGuard .eql 22 x y (.agg #[.int .u8 (m.x0 : Int), .int .u8 (m.x1 : Int), .int .u8 (m.x2 : Int), .int .u8 (m.x3 : Int), .int .u8 (m.x4 : Int), .int .u8 (m.x5 : Int), .int .u8 (m.x6 : Int), .int .u8 (m.x7 : Int)]) (.agg #[.int .u8 (m.x0 : Int), .int .u8 (m.x1 : Int), .int .u8 (m.x2 : Int), .int .u8 (m.x3 : Int), .int .u8 (m.x4 : Int), .int .u8 (m.x5 : Int), .int .u8 (m.x6 : Int), .int .u8 (m.x7 : Int)])).run Tryd.prog u = .ok () u := fun x y u => by first | (go_simp; done) | exact run_eqGuard_agg _ _ _ _ _ _ (by kernel_rfl)
    have hE : ∀ u, (binOp .eql 22 (.agg #[.int .u8 (m.x0 : Int), .int .u8 (m.x1 : Int), .int .u8 (m.x2 : Int), .int .u8 (m.x3 : Int), .int .u8 (m.x4 : Int), .int .u8 (m.x5 : Int), .int .u8 (m.x6 : Int), .int .u8 (m.x7 : Int)]) (.agg #[.int .u8 (m.x0 : Int), .int .u8 (m.x1 : Int), .int .u8 (m.x2 : Int), .int .u8 (m.x3 : Int), .int .u8 (m.x4 : Int), .int .u8 (m.x5 : Int), .int .u8 (m.x6 : Int), .int .u8 (m.x7 : Int)])).run Tryd.prog u = .ok (.bool (sameD m m)) u := fun u => eql_digR _ _ _ _ _ _ _ _ _ _ _ _ _ _ _ _ u
    rw [show sameD m m = true from sameD_iff.2 rfl] at hE
    go_upto_region 21 with fail
    refine wp_region_held_drew (S := fun w' => Below u5.heap.size u5 w') (by kernel_rfl) ((Below.refl u5.heap.size u5).drew) (fun hHeld => ?_)
    rw [show Array.replicate _ false = (#[false, false, false, false, false, false, false, false, false, false, false, false, false, false] : Array Bool) from rfl]
    refine takeH 0 (some 161) (v := ?_) rfl (by kernel_rfl) (by kernel_rfl) (by kernel_rfl) (by kernel_rfl) (fun _ _ _ h => h) (Or.inl ⟨by kernel_rfl, ?hy⟩) (by assumption) ?_
    case hy =>
      intro w' hSw
      clear hSw
      first
        | (go_simp; done)
        | (go_simp; with_reducible rfl)
    simp only [Act.put, List.setIfInBounds_toArray, List.set_cons_zero, List.set_cons_succ]
    refine takeH 4 (some 165) (v := .agg #[.int .u8 (m.x0 : Int), .int .u8 (m.x1 : Int), .int .u8 (m.x2 : Int), .int .u8 (m.x3 : Int), .int .u8 (m.x4 : Int), .int .u8 (m.x5 : Int), .int .u8 (m.x6 : Int), .int .u8 (m.x7 : Int)]) rfl (by kernel_rfl) (by kernel_rfl) (by kernel_rfl) (by kernel_rfl) (fun _ _ _ h => h) (Or.inl ⟨by kernel_rfl, ?hy⟩) (by assumption) ?_
    case hy =>
      intro w' hSw
      simp [execOp, Act.eval, hX w' hSw, Result.andThen]
    simp only [Act.put, List.setIfInBounds_toArray, List.set_cons_zero, List.set_cons_succ]
    have hq := (Below.refl u5.heap.size u5).drew
    have HAd := Lib.hid (HA8.out.below hq)
    refine wpAnyH_ready (rs := [1]) (by kernel_rfl) (by simp) ?_
    refine AllReadyH.cons rfl (fun K hK => ?_) AllReadyH.nil
    rw [if_pos (by kernel_rfl)]
    go_simp
    refine (ledger_any (HAd.out.led.choose_spec.choose_spec.1) (by simp)).mono ?_
    rintro e u6 ⟨A6, c6, rfl, ho6, hb6⟩
    have Ho6 : Hid (u6.ownsRow u5.drew.heap.size 27 8 (.slice A6 1 c6) 1 (flatD [m])) := Lib.hid ho6
    have hS6 := hq.trans (hb6.mono hq.size)
    rw [show (Value.slice A6 (RingM.mk s q [m]).led.length c6) = Value.slice A6 1 c6 from rfl]
    obtain ⟨b6, o6, rfl, hb6l, y0, y1, y2, y3, y4, y5, y6, y7⟩ := (Rd.of_own Ho6.out).di8 (k := 0) (by decide)
    simp only [Nat.zero_mul, Nat.add_zero, List.getD_cons_zero] at y0 y1 y2 y3 y4 y5 y6 y7
    clear ho6 hb6 hq HAd
    refine hK.out _ _ hS6 (fun _ => ?_)
    clear hK K
    simp only [List.setIfInBounds_toArray, List.set_cons_zero, List.set_cons_succ]
    refine wpAnyH_ready (rs := [2]) (by kernel_rfl) (by simp) ?_
    refine AllReadyH.cons rfl (fun K hK => ?_) AllReadyH.nil
    rw [if_pos (by kernel_rfl)]
    go_simp
    refine hK.out _ _ hS6 (fun _ => ?_)
    clear hK K
    simp only [List.setIfInBounds_toArray, List.set_cons_zero, List.set_cons_succ]
    refine wpAnyH_ready (rs := [3]) (by kernel_rfl) (by simp) ?_
    refine AllReadyH.cons rfl (fun K hK => ?_) AllReadyH.nil
    rw [if_pos (by kernel_rfl)]
    go_simp
    refine hK.out _ _ hS6 (fun _ => ?_)
    clear hK K
    simp only [List.setIfInBounds_toArray, List.set_cons_zero, List.set_cons_succ]
    clear y0 y1 y2 y3 y4 y5 y6 y7
    refine takeH 5 (some 166) (v := .bool true) rfl (by kernel_rfl) (by kernel_rfl) (by kernel_rfl) (by kernel_rfl) (fun _ _ _ h => h) (Or.inl ⟨by kernel_rfl, fun w' _ => exec_binD (by rfl) (by rfl) (by rfl) (hG _ _ w') (hE w')⟩) (by assumption) ?_
    simp only [Act.put, List.setIfInBounds_toArray, List.set_cons_zero, List.set_cons_succ]
    refine takeH 6 (some 167) (v := ?_) rfl (by kernel_rfl) (by kernel_rfl) (by kernel_rfl) (by kernel_rfl) (fun _ _ _ h => h) (Or.inl ⟨by kernel_rfl, ?hy⟩) (by assumption) ?_
    case hy =>
      intro w' hSw
      clear hSw
      first
        | (go_simp; done)
        | (go_simp; with_reducible rfl)
    simp only [Act.put, List.setIfInBounds_toArray, List.set_cons_zero, List.set_cons_succ]
    refine takeH 7 (some 168) (v := .agg #[.int .u8 (m.x0 : Int), .int .u8 (m.x1 : Int), .int .u8 (m.x2 : Int), .int .u8 (m.x3 : Int), .int .u8 (m.x4 : Int), .int .u8 (m.x5 : Int), .int .u8 (m.x6 : Int), .int .u8 (m.x7 : Int)]) rfl (by kernel_rfl) (by kernel_rfl) (by kernel_rfl) (by kernel_rfl) (fun _ _ _ h => h) (Or.inl ⟨by kernel_rfl, ?hy⟩) (by assumption) ?_
    case hy =>
      intro w' hSw
      simp [execOp, Act.eval, hX w' hSw, Result.andThen]
    simp only [Act.put, List.setIfInBounds_toArray, List.set_cons_zero, List.set_cons_succ]
    refine takeH 9 (some 170) (v := .agg #[.int .u8 (m.x0 : Int), .int .u8 (m.x1 : Int), .int .u8 (m.x2 : Int), .int .u8 (m.x3 : Int), .int .u8 (m.x4 : Int), .int .u8 (m.x5 : Int), .int .u8 (m.x6 : Int), .int .u8 (m.x7 : Int)]) rfl (by kernel_rfl) (by kernel_rfl) (by kernel_rfl) (by kernel_rfl) (fun _ _ _ h => h) (Or.inl ⟨by kernel_rfl, ?hy⟩) (by assumption) ?_
    case hy =>
      intro w' hSw
      simp [execOp, Act.eval, hX w' hSw, Result.andThen]
    simp only [Act.put, List.setIfInBounds_toArray, List.set_cons_zero, List.set_cons_succ]
    refine wpAnyH_ready (rs := [8]) (by kernel_rfl) (by simp) ?_
    refine AllReadyH.cons rfl (fun K hK => ?_) AllReadyH.nil
    rw [if_pos (by kernel_rfl)]
    go_simp
    refine (rnum_any m u6 Hm.out).mono ?_
    rintro e u7 ⟨rfl, hb7⟩
    have hS7 := hS6.trans (hb7.mono hS6.size)
    clear hb7 hS6
    refine hK.out _ _ hS7 (fun _ => ?_)
    clear hK K
    simp only [List.setIfInBounds_toArray, List.set_cons_zero, List.set_cons_succ]
    refine wpAnyH_ready (rs := [10]) (by kernel_rfl) (by simp) ?_
    refine AllReadyH.cons rfl (fun K hK => ?_) AllReadyH.nil
    rw [if_pos (by kernel_rfl)]
    go_simp
    refine (hnum_any m u7 Hm.out).mono ?_
    rintro e u8 ⟨rfl, hb8⟩
    have hS8 := hS7.trans (hb8.mono hS7.size)
    clear hb8 hS7
    refine hK.out _ _ hS8 (fun _ => ?_)
    clear hK K
    simp only [List.setIfInBounds_toArray, List.set_cons_zero, List.set_cons_succ]
    generalize m.num = mn at *
    refine takeH 11 (some 172) (v := ?_) rfl (by kernel_rfl) (by kernel_rfl) (by kernel_rfl) (by kernel_rfl) (fun _ _ _ h => h) (Or.inl ⟨by kernel_rfl, ?hy⟩) (by assumption) ?_
    case hy =>
      intro w' hSw
      clear hSw
      first
        | (go_simp; done)
        | (go_simp; with_reducible rfl)
    simp only [Act.put, List.setIfInBounds_toArray, List.set_cons_zero, List.set_cons_succ]
    refine takeH 12 (some 173) (v := ?_) rfl (by kernel_rfl) (by kernel_rfl) (by kernel_rfl) (by kernel_rfl) (fun _ _ _ h => h) (Or.inl ⟨by kernel_rfl, ?hy⟩) (by assumption) ?_
    case hy =>
      intro w' hSw
      clear hSw
      first
        | (go_simp; done)
        | (go_simp; with_reducible rfl)
    simp only [Act.put, List.setIfInBounds_toArray, List.set_cons_zero, List.set_cons_succ]
    refine takeH 13 (some 6) (v := ?_) rfl (by kernel_rfl) (by kernel_rfl) (by kernel_rfl) (by kernel_rfl) (fun _ _ _ h => h) (Or.inl ⟨by kernel_rfl, ?hy⟩) (by assumption) ?_
    case hy =>
      intro w' hSw
      clear hSw
      first
        | (go_simp; done)
        | (go_simp; with_reducible rfl)
    simp only [Act.put, List.setIfInBounds_toArray, List.set_cons_zero, List.set_cons_succ]
    refine wpAnyH_done (by kernel_rfl) ?_ _
    have Hw9 := Lib.hid (Hw8.out.trans (hS8.mono Hw8.out.size))
    clear hX hG hE hS8
    go_wp2
    go_ret
    exact ⟨rfl, Hw9.out⟩
end Go.Proofs.YtmpklplojfjfbaaDoor
