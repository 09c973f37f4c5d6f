/- A new ring: the walk of keys' New. Condition: none. -/
import Derived.Test.YthjpaclcoipocaaDoorKeX
import Derived.Carry
namespace Go.Proofs.YthjpaclcoipocaaDoor
open Go.RowKit Go.Lib



set_option maxRecDepth 100000 in
set_option maxHeartbeats 2000000 in
theorem new_bad (s : D8) (h : Int) (w : World) (hh : h < 0 ∨ 8 < h) :
    Calls Tryd.prog 7 #[.agg #[.int .u8 (s.x0 : Int), .int .u8 (s.x1 : Int), .int .u8 (s.x2 : Int), .int .u8 (s.x3 : Int), .int .u8 (s.x4 : Int), .int .u8 (s.x5 : Int), .int .u8 (s.x6 : Int), .int .u8 (s.x7 : Int)], .int .i64 h] w fun e w' => e = .returned (.tuple #[.pointer none, .int .i64 2]) ∧ Below w.heap.size w w' := by
  have hb := h_one w (.cells #[.int .u8 (s.x0 : Int), .int .u8 (s.x1 : Int), .int .u8 (s.x2 : Int), .int .u8 (s.x3 : Int), .int .u8 (s.x4 : Int), .int .u8 (s.x5 : Int), .int .u8 (s.x6 : Int), .int .u8 (s.x7 : Int)] 31)
  by_cases h0 : h < 0
  · have d1 : decide (h < 0) = true := decide_eq_true h0
    go_enter Tryd.func7, Tryd.ntmps7
    go_wp2
    go_ret2
    exact ⟨rfl, hb⟩
  · have d1 : decide (h < 0) = false := decide_eq_false h0
    have d2 : decide (8 < h) = true := decide_eq_true (by omega)
    go_enter Tryd.func7, Tryd.ntmps7
    go_wp2
    go_ret2
    exact ⟨rfl, hb⟩
set_option maxRecDepth 100000 in
set_option maxHeartbeats 4000000 in
theorem new_any (s : D8) (h : Nat) (w : World) (hs : s.ok) (hh : h ≤ 8) :
    Calls Tryd.prog 7 #[.agg #[.int .u8 (s.x0 : Int), .int .u8 (s.x1 : Int), .int .u8 (s.x2 : Int), .int .u8 (s.x3 : Int), .int .u8 (s.x4 : Int), .int .u8 (s.x5 : Int), .int .u8 (s.x6 : Int), .int .u8 (s.x7 : Int)], .int .i64 (h : Int)] w fun e w' => ∃ br F T0 T1, e = .returned (.tuple #[.pointer (some ⟨br, 0, none⟩), .int .i64 0]) ∧ RingAt w' w.heap.size F T0 T1 br (RingM.new s h) ∧ Below w.heap.size w w' := by
  have Hs := Lib.hid hs
  have d1 : decide ((h : Int) < 0) = false := by simp
  have d2 : decide ((8 : Int) < (h : Int)) = false := decide_eq_false (by omega)
  obtain ⟨hS0, hM0, hR0, hw0, hz0⟩ := alloc3 w (.cells #[.int .u8 (s.x0 : Int), .int .u8 (s.x1 : Int), .int .u8 (s.x2 : Int), .int .u8 (s.x3 : Int), .int .u8 (s.x4 : Int), .int .u8 (s.x5 : Int), .int .u8 (s.x6 : Int), .int .u8 (s.x7 : Int)] 31) (.map #[] 0) (.cells (ringC s h (.pointer none) (.slice none 0 0) (w.heap.size + 1)) 53)
  have HM0 := Lib.hid hM0; have HR0 := Lib.hid hR0; have Hw0 := Lib.hid hw0; have Hz0 := Lib.hid hz0
  unfold ringC at HR0 Hw0 Hz0 HM0
  clear hS0 hM0 hR0 hw0 hz0 hs
  have hsh := shl_one hh
  have hpw := pow_le8 hh
  obtain ⟨n, hn⟩ : ∃ n, n = 2 ^ h := ⟨_, rfl⟩
  have hsh2 : IntKind.i64.wrap ((2 : Int) ^ h) = (n : Int) := by rw [hsh, hn]
  rw [← hn] at hpw
  have Hn := Lib.hid hn; have Hhh := Lib.hid hh
  have hmm := @run_makeMap Tryd.prog
  clear hsh hn
  go_enter Tryd.func7, Tryd.ntmps7
  go_upto_region 4 with fail
  generalize ((w.alloc _).alloc (.map #[] 0)).alloc (.cells _ 53) = v0 at *
  clear hmm
  have hs0 := Hz0.out
  obtain ⟨br, hbr⟩ : ∃ br, br = w.heap.size + 2 := ⟨_, rfl⟩
  have hR1 := HR0.out
  rw [← hbr] at hR1
  have hbr2 : w.heap.size + 1 + 1 = br := hbr.symm
  simp only [hbr2]
  have HR1 := Lib.hid hR1
  have hbm : w.heap.size + 1 < br := by omega
  have hbv : br < v0.heap.size := block_lt hR1
  have hwm : w.heap.size ≤ w.heap.size + 1 := by omega
  clear hs0 hR1 HR0 Hz0 hbr hbr2
  generalize w.heap.size + 1 = mb at *
  have hmb : mb < v0.heap.size := block_lt HM0.out
  have HDr : Hid (DRow (newD v0 n) v0.heap.size n (rowK (fun i => publicD (ownD s i)) 0 n)) := by rw [rowK_zero]; exact newD_row v0 n
  have HR2 := Lib.hid (newD_block (n := n) HR1.out); have HM2 := Lib.hid (newD_block (n := n) HM0.out)
  have Hw2 := Lib.hid (Hw0.out.trans ((newD_below v0 n).mono Hw0.out.size))
  have hmk := make_dig n (by omega) v0
  have hsz := newD_size v0 n
  have hmk2 : (Instr.makeSlice 51 (.int .i64 (IntKind.i64.wrap ((2 : Int) ^ h))) (.int .i64 (IntKind.i64.wrap ((2 : Int) ^ h)))).run Tryd.prog v0 = .ok (.slice (some ⟨v0.heap.size, 0, none⟩) n n) (newD v0 n) := by rw [hsh2]; exact hmk
  clear HM0 HR1 Hw0
  go_upto_region 5 with (first | (rw [hmk2]; simp only [Result.andThen_ok]) | (rw [hmk]; simp only [Result.andThen_ok]))
  generalize newD v0 n = v1 at *
  generalize v0.heap.size = g at *
  clear hmk hmk2
  have hbg : br < g := hbv
  go_wp2
  go_loopw [27] (fun i wr => ∃ k : Nat, k ≤ n ∧ i = .int .i64 (k : Int) ∧ DRow wr g n (rowK (fun i => publicD (ownD s i)) k n) ∧ wr.heap[br]? = some (.cells (ringC s h (.pointer none) (.slice none 0 0) mb) 53 (0, 0)) ∧ wr.heap[mb]? = some (.map #[] 0) ∧ Below w.heap.size w wr) (fun i _ => n - (RowKit.intOf i).toNat)
  case atStart => exact ⟨0, by omega, rfl, HDr.out, HR2.out, HM2.out, Hw2.out⟩
  case round =>
    obtain ⟨k, hk, rfl, hD, hR, hM, hw⟩ := hrel
    have HD := Lib.hid hD; have HR := Lib.hid hR; have HM := Lib.hid hM; have Hw := Lib.hid hw
    clear hD hR hM hw HDr HR2 HM2 Hw2
    by_cases hlt : k < n
    · have hd1 : decide ((k : Int) < (n : Int)) = true := decide_eq_true (by omega)
      have hki : (k : Int) < (n : Int) := by omega
      have Hk := Lib.hid hlt
      have Hset := Lib.hid (rowK_set (fun i => publicD (ownD s i)) k n)
      go_wp2_with fail
      refine (own_any s h _ _ mb br k wr Hs.out (by omega) HR.out).mono ?_
      rintro e v2 ⟨rfl, hb2⟩
      have HD2 := Lib.hid (HD.out.below hb2); have HR2 := Lib.hid (block_below HR.out hb2 (block_lt HR.out)); have HM2 := Lib.hid (block_below HM.out hb2 (block_lt HM.out)); have Hw2 := Lib.hid (Hw.out.trans (hb2.mono Hw.out.size))
      have Hok := Lib.hid (ownD_ok s k)
      have Hq : Hid (publicD (ownD s k) = publicD (ownD s k)) := Lib.hid rfl
      generalize hod : ownD s k = od at *
      clear hb2 HD HR HM Hw Hq
      go_wp2_with fail
      refine (public_any od v2 Hok.out).mono ?_
      rintro e v3 ⟨rfl, hb3⟩
      have HD3 := Lib.hid (HD2.out.below hb3); have HR3 := Lib.hid (block_below HR2.out hb3 (block_lt HR2.out)); have HM3 := Lib.hid (block_below HM2.out hb3 (block_lt HM2.out)); have Hw3 := Lib.hid (Hw2.out.trans (hb3.mono Hw2.out.size))
      obtain ⟨zf, r0, r1, r2, r3, r4, r5, r6, r7⟩ := HD3.out.at8 Hk.out
      have Hod := Lib.hid hod
      generalize hpd : publicD od = pd at *
      have Hpd : Hid (publicD (ownD s k) = pd) := Lib.hid (by rw [hod, hpd])
      obtain ⟨h4, g4⟩ := HD3.out.setR Hk.out pd
      rw [Hset.out] at h4
      have hlg := HD3.out.lt
      have HD4 := Lib.hid h4
      have HR4 := Lib.hid ((g4.block br (block_lt HR3.out) (by intro e; injection e with e; omega)).trans HR3.out)
      have HM4 := Lib.hid ((g4.block mb (block_lt HM3.out) (by intro e; injection e with e; omega)).trans HM3.out)
      have hwg : w.heap.size ≤ g := by omega
      have Hw4 := Lib.hid (Hw3.out.grown g4 Hw3.out.size (fun q hq => by injection hq with hq; omega))
      clear hb3 HD2 HR2 HM2 Hw2 HD3 HR3 HM3 Hw3 h4 g4 hod hpd
      go_wp2
      go_roundw
      case rel => exact ⟨k + 1, Hk.out, by go_num, HD4.out, HR4.out, HM4.out, Hw4.out⟩
      case measure => have := Hk.out; simp [RowKit.intOf]; omega
    · obtain rfl : k = n := by omega
      have hd1 : decide ((k : Int) < (k : Int)) = false := by simp
      rw [rowK_full] at HD
      have hks : keysD s h = (List.range k).map (fun i => publicD (ownD s i)) := by rw [Hn.out]; rfl
      rw [← hks] at HD
      have Hok := Lib.hid (keysD_ok s h)
      clear hlt hk hks
      go_wp2_with fail
      refine (tnew_any (some ⟨g, 0, none⟩) k k h (keysD s h) wr HD.out.rd Hok.out Hn.out hh).mono ?_
      rintro e v5 ⟨bt, rfl, ht5, hb5⟩
      have HT5 := Lib.hid ht5; have HR5 := Lib.hid (block_below HR.out hb5 (block_lt HR.out)); have HM5 := Lib.hid (block_below HM.out hb5 (block_lt HM.out)); have Hw5 := Lib.hid (Hw.out.trans (hb5.mono Hw.out.size))
      have hbl := block_lt HR5.out
      have hwl : br < wr.heap.size := block_lt HR.out
      have hws := Hw.out.size
      have hs5 := hb5.size
      obtain ⟨yf, y0, y1, y2, y3, y4, y5, y6, y7, y8, y9, y10, y11⟩ := freeR HR5.out
      clear ht5 hb5 HD HR Hw y0 y1 y2 y3 y4 y5 y6 y7 y8 y10 y11
      go_wp2
      have h6 := Joins.block_setCell (i := 9) HR5.out (.pointer (some ⟨bt, 0, none⟩))
      have e6 : (ringC s h (.pointer none) (.slice none 0 0) mb).setIfInBounds 9 (.pointer (some ⟨bt, 0, none⟩)) = ringC s h (.pointer (some ⟨bt, 0, none⟩)) (.slice none 0 0) mb := rfl
      rw [e6] at h6
      have g6 := grown_set1 v5 br 9 (.pointer (some ⟨bt, 0, none⟩))
      generalize v5.setCell ⟨br, 9, none⟩ (.pointer (some ⟨bt, 0, none⟩)) = v6 at *
      have hs6 : v5.heap.size ≤ v6.heap.size := g6.size
      refine bodyPost_ret (results_tmp2 rfl _ _ _) rfl ⟨br, fun k => k = mb ∨ k = br, wr.heap.size, v5.heap.size, rfl, ⟨⟨mb, bt, ⟨⟨none, 0, h6, World.ownsRow_nil _ _ _ _, fun g hg => by simp [Value.ownBlock] at hg⟩, ⟨#[], 0, (g6.block mb (block_lt HM5.out) (by intro e; injection e with e; omega)).trans HM5.out, rfl⟩, List.nodup_nil, fun d hd => by simp [RingM.new] at hd, .inr rfl, .inl rfl, ?_⟩, HT5.out.kept (fun k h1 h2 => g6.block k h2 (by intro e; injection e with e; omega)) hs6⟩, ?_, hws, hs6, ⟨Hs.out, hh, List.nodup_nil, fun d hd => by simp [RingM.new] at hd, by simp [RingM.new]⟩⟩, Hw5.out.grown g6 Hw5.out.size (fun q hq => by injection hq with hq; omega)⟩
      · rintro k (rfl | rfl)
        · have := block_lt HM5.out; omega
        · omega
      · rintro k (rfl | rfl) ht
        · have := block_lt HM.out; omega
        · omega
end Go.Proofs.YthjpaclcoipocaaDoor
