/- A message's signature by one key: the walk of once's Sign. Condition: none. -/
import Derived.Test.YtmpklplojfjfbaaGreatDoorKeI
import Derived.Test.YtmpklplojfjfbaaGreatDoorKeV
import Derived.Test.YtmpklplojfjfbaaGreatDoorJoinA
namespace Go.Proofs.YtmpklplojfjfbaaGreatDoor
open Go.RowKit Go.Lib



theorem idx_reach (m : D8) (k : Nat) (hk : k < 18) (w : World) : (Instr.index 110 (.agg (reachA m)) (.int .i64 (k : Int))).run Tryz.prog w = .ok (.int .i64 (((reachL m).getD k 0 : Nat) : Int)) w := by
  have i0 : ∀ w, (Instr.index 110 (.agg (reachA m)) (.int .i64 0)).run Tryz.prog w = .ok (.int .i64 ((m.x0 % 16 : Nat) : Int)) w := fun _ => by kernel_rfl
  have i1 : ∀ w, (Instr.index 110 (.agg (reachA m)) (.int .i64 1)).run Tryz.prog w = .ok (.int .i64 ((m.x0 / 16 : Nat) : Int)) w := fun _ => by kernel_rfl
  have i2 : ∀ w, (Instr.index 110 (.agg (reachA m)) (.int .i64 2)).run Tryz.prog w = .ok (.int .i64 ((m.x1 % 16 : Nat) : Int)) w := fun _ => by kernel_rfl
  have i3 : ∀ w, (Instr.index 110 (.agg (reachA m)) (.int .i64 3)).run Tryz.prog w = .ok (.int .i64 ((m.x1 / 16 : Nat) : Int)) w := fun _ => by kernel_rfl
  have i4 : ∀ w, (Instr.index 110 (.agg (reachA m)) (.int .i64 4)).run Tryz.prog w = .ok (.int .i64 ((m.x2 % 16 : Nat) : Int)) w := fun _ => by kernel_rfl
  have i5 : ∀ w, (Instr.index 110 (.agg (reachA m)) (.int .i64 5)).run Tryz.prog w = .ok (.int .i64 ((m.x2 / 16 : Nat) : Int)) w := fun _ => by kernel_rfl
  have i6 : ∀ w, (Instr.index 110 (.agg (reachA m)) (.int .i64 6)).run Tryz.prog w = .ok (.int .i64 ((m.x3 % 16 : Nat) : Int)) w := fun _ => by kernel_rfl
  have i7 : ∀ w, (Instr.index 110 (.agg (reachA m)) (.int .i64 7)).run Tryz.prog w = .ok (.int .i64 ((m.x3 / 16 : Nat) : Int)) w := fun _ => by kernel_rfl
  have i8 : ∀ w, (Instr.index 110 (.agg (reachA m)) (.int .i64 8)).run Tryz.prog w = .ok (.int .i64 ((m.x4 % 16 : Nat) : Int)) w := fun _ => by kernel_rfl
  have i9 : ∀ w, (Instr.index 110 (.agg (reachA m)) (.int .i64 9)).run Tryz.prog w = .ok (.int .i64 ((m.x4 / 16 : Nat) : Int)) w := fun _ => by kernel_rfl
  have i10 : ∀ w, (Instr.index 110 (.agg (reachA m)) (.int .i64 10)).run Tryz.prog w = .ok (.int .i64 ((m.x5 % 16 : Nat) : Int)) w := fun _ => by kernel_rfl
  have i11 : ∀ w, (Instr.index 110 (.agg (reachA m)) (.int .i64 11)).run Tryz.prog w = .ok (.int .i64 ((m.x5 / 16 : Nat) : Int)) w := fun _ => by kernel_rfl
  have i12 : ∀ w, (Instr.index 110 (.agg (reachA m)) (.int .i64 12)).run Tryz.prog w = .ok (.int .i64 ((m.x6 % 16 : Nat) : Int)) w := fun _ => by kernel_rfl
  have i13 : ∀ w, (Instr.index 110 (.agg (reachA m)) (.int .i64 13)).run Tryz.prog w = .ok (.int .i64 ((m.x6 / 16 : Nat) : Int)) w := fun _ => by kernel_rfl
  have i14 : ∀ w, (Instr.index 110 (.agg (reachA m)) (.int .i64 14)).run Tryz.prog w = .ok (.int .i64 ((m.x7 % 16 : Nat) : Int)) w := fun _ => by kernel_rfl
  have i15 : ∀ w, (Instr.index 110 (.agg (reachA m)) (.int .i64 15)).run Tryz.prog w = .ok (.int .i64 ((m.x7 / 16 : Nat) : Int)) w := fun _ => by kernel_rfl
  have i16 : ∀ w, (Instr.index 110 (.agg (reachA m)) (.int .i64 16)).run Tryz.prog w = .ok (.int .i64 ((lackN m % 16 : Nat) : Int)) w := fun _ => by kernel_rfl
  have i17 : ∀ w, (Instr.index 110 (.agg (reachA m)) (.int .i64 17)).run Tryz.prog w = .ok (.int .i64 ((lackN m / 16 : Nat) : Int)) w := fun _ => by kernel_rfl
  have : k = 0 ∨ k = 1 ∨ k = 2 ∨ k = 3 ∨ k = 4 ∨ k = 5 ∨ k = 6 ∨ k = 7 ∨ k = 8 ∨ k = 9 ∨ k = 10 ∨ k = 11 ∨ k = 12 ∨ k = 13 ∨ k = 14 ∨ k = 15 ∨ k = 16 ∨ k = 17 := by omega
  rcases this with rfl | rfl | rfl | rfl | rfl | rfl | rfl | rfl | rfl | rfl | rfl | rfl | rfl | rfl | rfl | rfl | rfl | rfl
  · exact i0 w
  · exact i1 w
  · exact i2 w
  · exact i3 w
  · exact i4 w
  · exact i5 w
  · exact i6 w
  · exact i7 w
  · exact i8 w
  · exact i9 w
  · exact i10 w
  · exact i11 w
  · exact i12 w
  · exact i13 w
  · exact i14 w
  · exact i15 w
  · exact i16 w
  · exact i17 w
/-- A digest's bytes in a new box. -/
theorem box_rd (w : World) (q : D8) (T : TypeId) : Rd (w.alloc (.cells #[.int .u8 (q.x0 : Int), .int .u8 (q.x1 : Int), .int .u8 (q.x2 : Int), .int .u8 (q.x3 : Int), .int .u8 (q.x4 : Int), .int .u8 (q.x5 : Int), .int .u8 (q.x6 : Int), .int .u8 (q.x7 : Int)] T)) (w.alloc (.cells #[.int .u8 (q.x0 : Int), .int .u8 (q.x1 : Int), .int .u8 (q.x2 : Int), .int .u8 (q.x3 : Int), .int .u8 (q.x4 : Int), .int .u8 (q.x5 : Int), .int .u8 (q.x6 : Int), .int .u8 (q.x7 : Int)] T)).heap.size 1 (some ⟨w.heap.size, 0, none⟩) 8 (bv q.bytes) := Rd.newA (n := 8) (sz := 1) (xs := bv q.bytes) w T #[.int .u8 (q.x0 : Int), .int .u8 (q.x1 : Int), .int .u8 (q.x2 : Int), .int .u8 (q.x3 : Int), .int .u8 (q.x4 : Int), .int .u8 (q.x5 : Int), .int .u8 (q.x6 : Int), .int .u8 (q.x7 : Int)] rfl rfl
def onceK (s m : D8) (k : Nat) : List Nat := (List.range k).flatMap fun c => (chainD (startD s c) ((reachL m).getD c 0)).bytes
theorem onceK_succ (s m : D8) (k : Nat) : onceK s m (k + 1) = onceK s m k ++ (chainD (startD s k) ((reachL m).getD k 0)).bytes := by
  unfold onceK
  rw [List.range_succ, List.flatMap_append]
  simp
set_option maxRecDepth 100000 in
set_option maxHeartbeats 4000000 in
theorem osign_any (s m : D8) (w : World) (hs : s.ok) (hm : m.ok) :
    Calls Tryz.prog 43 #[.agg #[.int .u8 (s.x0 : Int), .int .u8 (s.x1 : Int), .int .u8 (s.x2 : Int), .int .u8 (s.x3 : Int), .int .u8 (s.x4 : Int), .int .u8 (s.x5 : Int), .int .u8 (s.x6 : Int), .int .u8 (s.x7 : Int)], .agg #[.int .u8 (m.x0 : Int), .int .u8 (m.x1 : Int), .int .u8 (m.x2 : Int), .int .u8 (m.x3 : Int), .int .u8 (m.x4 : Int), .int .u8 (m.x5 : Int), .int .u8 (m.x6 : Int), .int .u8 (m.x7 : Int)]] w (GivesB w (onceB s m)) := by
  obtain ⟨i0, hi, hz0, hz1, hz2⟩ := info_parts info_u8
  have HI := Lib.hid (And.intro hi (And.intro hz0 (And.intro hz1 hz2))); clear hi hz0 hz1 hz2
  obtain ⟨hS0, hM0, hw0, hz0⟩ := alloc2 w (.cells #[.int .u8 (s.x0 : Int), .int .u8 (s.x1 : Int), .int .u8 (s.x2 : Int), .int .u8 (s.x3 : Int), .int .u8 (s.x4 : Int), .int .u8 (s.x5 : Int), .int .u8 (s.x6 : Int), .int .u8 (s.x7 : Int)] 38) (.cells #[.int .u8 (m.x0 : Int), .int .u8 (m.x1 : Int), .int .u8 (m.x2 : Int), .int .u8 (m.x3 : Int), .int .u8 (m.x4 : Int), .int .u8 (m.x5 : Int), .int .u8 (m.x6 : Int), .int .u8 (m.x7 : Int)] 38)
  have HS0 := Lib.hid hS0; have HM0 := Lib.hid hM0; have Hw0 := Lib.hid hw0; have Hz0 := Lib.hid hz0; have Hs := Lib.hid hs; have Hm := Lib.hid hm
  clear hS0 hM0 hw0 hz0 hs hm
  go_enter Tryz.func43, Tryz.ntmps43
  go_upto_region 1 with fail
  generalize (w.alloc (.cells #[.int .u8 (s.x0 : Int), .int .u8 (s.x1 : Int), .int .u8 (s.x2 : Int), .int .u8 (s.x3 : Int), .int .u8 (s.x4 : Int), .int .u8 (s.x5 : Int), .int .u8 (s.x6 : Int), .int .u8 (s.x7 : Int)] 38)).alloc (.cells #[.int .u8 (m.x0 : Int), .int .u8 (m.x1 : Int), .int .u8 (m.x2 : Int), .int .u8 (m.x3 : Int), .int .u8 (m.x4 : Int), .int .u8 (m.x5 : Int), .int .u8 (m.x6 : Int), .int .u8 (m.x7 : Int)] 38) = v0 at *
  go_wp2_with (at_make; go_must (refine wpList_make_own v0 (by rfl) _ _ 23 (by rfl) w.heap.size 5 i0 (.int .u8 0) 1 Tryz.underlying23 HI.out.1 HI.out.2.1 HI.out.2.2.1 .i64 .i64 _ 144 (by rfl) (by rfl) (by simp) (by rw [HI.out.2.2.2]; omega) (by simp only [maxLen]; omega) Hw0.out.size ?_); intro w1 hown1 hg1; have hg2 := below_of_grown hg1 (Nat.le_refl _) (by simp); have HS1 := Lib.hid (block_below HS0.out hg2 (block_lt HS0.out)); have HM1 := Lib.hid (block_below HM0.out hg2 (block_lt HM0.out)); have Hb1 := Lib.hid (Hw0.out.trans (hg2.mono Hw0.out.size)); have HO1 := Lib.hid hown1; clear hown1 hg1 hg2 HS0 HM0 Hw0; obtain ⟨zf, r0, r1, r2, r3, r4, r5, r6, r7⟩ := free8 HM1.out; have hlm := block_lt HM1.out)
  refine (reach_any m w1 Hm.out).mono ?_
  rintro e w2 ⟨rfl, hb2⟩
  have HS2 := Lib.hid (block_below HS1.out hb2 (block_lt HS1.out)); have HO2 := Lib.hid (own_below HO1.out hb2); have Hb2 := Lib.hid (Hb1.out.trans (hb2.mono Hb1.out.size))
  have hidx := idx_reach m
  have Hi0 := Lib.hid hidx
  clear hb2 HS1 HM1 HO1 Hb1 zf r0 r1 r2 r3 r4 r5 r6 r7 hidx
  generalize hra : reachA m = ra at *
  clear hra
  go_wp2
  go_loopw [12, 5] (fun s12 s5 wr => ∃ (k : Nat) (A : Option Addr) (c : Nat), k ≤ 18 ∧ s12 = .int .i64 (k : Int) ∧ s5 = .slice A (8 * k) c ∧ wr.ownsRow w.heap.size 5 1 (.slice A (8 * k) c) (8 * k) (bv (onceK s m k)) ∧ wr.heap[w.heap.size]? = some (.cells #[.int .u8 (s.x0 : Int), .int .u8 (s.x1 : Int), .int .u8 (s.x2 : Int), .int .u8 (s.x3 : Int), .int .u8 (s.x4 : Int), .int .u8 (s.x5 : Int), .int .u8 (s.x6 : Int), .int .u8 (s.x7 : Int)] 38 (0, 0)) ∧ Below w.heap.size w wr) (fun s12 _ _ => 18 - (RowKit.intOf s12).toNat)
  case atStart => exact ⟨0, _, _, by omega, rfl, rfl, HO2.out, HS2.out, Hb2.out⟩
  case round =>
    obtain ⟨k, A, c, hk, rfl, rfl, ho, hs, hb⟩ := hrel
    have HO := Lib.hid ho; have HS := Lib.hid hs; have Hb := Lib.hid hb
    clear ho hs hb HO2 HS2 Hb2
    by_cases hlt : k < 18
    · have hd1 : decide ((k : Int) < 18) = true := decide_eq_true (by omega)
      have hki : (k : Int) < 18 := by omega
      have hidx := Hi0.out k hlt
      have hdg := reachD_le Hm.out k
      have Hsn := Lib.hid (onceK_succ s m k)
      have hwk := reachD_le Hm.out k
      generalize (reachL m).getD k 0 = dg at *
      have Hk := Lib.hid hlt
      obtain ⟨zf, r0, r1, r2, r3, r4, r5, r6, r7⟩ := free8 HS.out
      have hls := block_lt HS.out
      go_wp2_with fail
      refine (start_any s k wr Hs.out (by omega)).mono ?_
      rintro e w3 ⟨rfl, hb3⟩
      have HS3 := Lib.hid (block_below HS.out hb3 (block_lt HS.out)); have HO3 := Lib.hid (own_below HO.out hb3); have Hb3 := Lib.hid (Hb.out.trans (hb3.mono Hb.out.size))
      have Hst := Lib.hid (startD_ok s k)
      generalize startD s k = st at *
      clear hb3 HS HO Hb zf r0 r1 r2 r3 r4 r5 r6 r7
      go_wp2_with fail
      refine (chain_any st dg w3 Hst.out (by omega)).mono ?_
      rintro e w4 ⟨rfl, hb4⟩
      have hS4 := block_below HS3.out hb4 (block_lt HS3.out); have hO4 := own_below HO3.out hb4; have hb5 := Hb3.out.trans (hb4.mono Hb3.out.size)
      generalize chainD st dg = q at *
      have HS5 := Lib.hid (block_alloc hS4 (.cells #[.int .u8 (q.x0 : Int), .int .u8 (q.x1 : Int), .int .u8 (q.x2 : Int), .int .u8 (q.x3 : Int), .int .u8 (q.x4 : Int), .int .u8 (q.x5 : Int), .int .u8 (q.x6 : Int), .int .u8 (q.x7 : Int)] 38)); have HO5 := Lib.hid (hO4.alloc (.cells #[.int .u8 (q.x0 : Int), .int .u8 (q.x1 : Int), .int .u8 (q.x2 : Int), .int .u8 (q.x3 : Int), .int .u8 (q.x4 : Int), .int .u8 (q.x5 : Int), .int .u8 (q.x6 : Int), .int .u8 (q.x7 : Int)] 38)); have Hb5 := Lib.hid (hb5.alloc hb5.size (.cells #[.int .u8 (q.x0 : Int), .int .u8 (q.x1 : Int), .int .u8 (q.x2 : Int), .int .u8 (q.x3 : Int), .int .u8 (q.x4 : Int), .int .u8 (q.x5 : Int), .int .u8 (q.x6 : Int), .int .u8 (q.x7 : Int)] 38))
      have HRl := Lib.hid (box_rd w4 q 38)
      have hls4 : w.heap.size < w4.heap.size := block_lt hS4
      have HNe : Hid (∀ g, (Value.slice A (8 * k) c).ownBlock = some g → g ≠ w.heap.size) := Lib.hid fun g hg e => own_ne HO3.out HS3.out (by decide) (by rw [← e]; exact hg.symm)
      clear hb4 HS3 HO3 Hb3 hS4 hO4 hb5
      go_upto_region 6 with fail
      generalize w4.alloc (.cells #[.int .u8 (q.x0 : Int), .int .u8 (q.x1 : Int), .int .u8 (q.x2 : Int), .int .u8 (q.x3 : Int), .int .u8 (q.x4 : Int), .int .u8 (q.x5 : Int), .int .u8 (q.x6 : Int), .int .u8 (q.x7 : Int)] 38) = w5 at *
      have hbs : w.heap.size ≤ w5.heap.size := Hb5.out.size
      go_wp2_with (at_builtin; go_must (refine wpList_append_rdg w5 (by rfl) _ _ 23 (by rfl) w.heap.size 5 i0 (.int .u8 0) 1 1 Tryz.underlying23 HI.out rfl (by decide) _ _ _ (by rfl) HO5.out w5.heap.size (some ⟨w4.heap.size, 0, none⟩) 8 8 _ (by rfl) HRl.out (bv_one _) (by omega) (by omega) hbs ?_); intro v6 w6 ho6 hb6 hg6; obtain ⟨A6, c6, rfl⟩ := own_form ho6; rw [← bv_append, ← Hsn.out] at ho6; have HO6 := Lib.hid ho6; have Hb6 := Lib.hid (Hb5.out.trans hb6); have HS6 := Lib.hid (block_grown HS5.out hg6 (fun e => HNe.out _ e.symm rfl)); clear ho6 hb6 hg6)
      go_roundw
      case rel => exact ⟨k + 1, A6, c6, Hk.out, by go_num, rfl, HO6.out, HS6.out, Hb6.out⟩
      case measure => have := Hk.out; simp [RowKit.intOf]; omega
    · obtain rfl : k = 18 := by omega
      have hd1 : decide (((18 : Nat) : Int) < 18) = false := by decide
      clear hlt hk
      go_wp2
      go_ret
      exact ⟨A, _, c, rfl, HO.out, (onceB_len s m).symm, Hb.out⟩
end Go.Proofs.YtmpklplojfjfbaaGreatDoor
