/- The walk of KeysSame: its rings made, its messages reserved. Condition: none. -/
import Derived.Test.YtmpklplojfjfbaaKgW
namespace Go.Proofs.Ytmpklplojfjfbaa
open Go.RowKit Go.Lib



set_option maxRecDepth 100000 in
set_option maxHeartbeats 8000000 in
theorem ksame_any (a b : D8) (h : Nat) (A : Option Addr) (n c : Nat) (l : List D8) (A' : Option Addr) (n' c' : Nat) (l' : List D8) (w : World) (ha : a.ok) (hb : b.ok) (hh : h < 256) (hr : Rd w w.heap.size 8 A n (flatD l)) (hok : ∀ d ∈ l, d.ok) (hr' : Rd w w.heap.size 8 A' n' (flatD l')) (hok' : ∀ d ∈ l', d.ok) :
    Calls Try.prog 5 #[.agg #[.int .u8 (a.x0 : Int), .int .u8 (a.x1 : Int), .int .u8 (a.x2 : Int), .int .u8 (a.x3 : Int), .int .u8 (a.x4 : Int), .int .u8 (a.x5 : Int), .int .u8 (a.x6 : Int), .int .u8 (a.x7 : Int)], .agg #[.int .u8 (b.x0 : Int), .int .u8 (b.x1 : Int), .int .u8 (b.x2 : Int), .int .u8 (b.x3 : Int), .int .u8 (b.x4 : Int), .int .u8 (b.x5 : Int), .int .u8 (b.x6 : Int), .int .u8 (b.x7 : Int)], .int .u8 (h : Int), .slice A n c, .slice A' n' c'] w fun e w' => e = .returned (.bool true) ∧ Below w.heap.size w w' := by
  have Ha := Lib.hid ha; have Hbo := Lib.hid hb; have Hr := Lib.hid hr; have Hok := Lib.hid hok; have Hl := Lib.hid hr.dlenD; have Hr' := Lib.hid hr'; have Hok' := Lib.hid hok'; have Hl' := Lib.hid hr'.dlenD
  obtain ⟨hA0, hB0, hw0, hz0⟩ := alloc2 w (.cells #[.int .u8 (a.x0 : Int), .int .u8 (a.x1 : Int), .int .u8 (a.x2 : Int), .int .u8 (a.x3 : Int), .int .u8 (a.x4 : Int), .int .u8 (a.x5 : Int), .int .u8 (a.x6 : Int), .int .u8 (a.x7 : Int)] 22) (.cells #[.int .u8 (b.x0 : Int), .int .u8 (b.x1 : Int), .int .u8 (b.x2 : Int), .int .u8 (b.x3 : Int), .int .u8 (b.x4 : Int), .int .u8 (b.x5 : Int), .int .u8 (b.x6 : Int), .int .u8 (b.x7 : Int)] 22)
  have HA0 := Lib.hid hA0; have HB0 := Lib.hid hB0; have Hw0 := Lib.hid hw0; have Hz0 := Lib.hid hz0
  clear ha hb hr hok hr' hok' hA0 hB0 hw0 hz0
  by_cases hbig : 8 < n
  · have hd0 : decide ((8 : Int) < (n : Int)) = true := decide_eq_true (by omega)
    clear hbig
    go_enter Try.func5, Try.ntmps5
    go_upto_region 1 with fail
    generalize (w.alloc (.cells #[.int .u8 (a.x0 : Int), .int .u8 (a.x1 : Int), .int .u8 (a.x2 : Int), .int .u8 (a.x3 : Int), .int .u8 (a.x4 : Int), .int .u8 (a.x5 : Int), .int .u8 (a.x6 : Int), .int .u8 (a.x7 : Int)] 22)).alloc (.cells #[.int .u8 (b.x0 : Int), .int .u8 (b.x1 : Int), .int .u8 (b.x2 : Int), .int .u8 (b.x3 : Int), .int .u8 (b.x4 : Int), .int .u8 (b.x5 : Int), .int .u8 (b.x6 : Int), .int .u8 (b.x7 : Int)] 22) = w1 at *
    go_wp2_with fail
    refine (known_any w1).mono ?_
    rintro e w2 ⟨rfl, hb2⟩
    have Hw2 := Lib.hid (Hw0.out.trans (hb2.mono Hw0.out.size))
    clear hb2
    go_wp2_with fail
    refine (known_any w2).mono ?_
    rintro e w3 ⟨rfl, hb3⟩
    have Hw3 := Lib.hid (Hw2.out.trans (hb3.mono Hw2.out.size))
    clear hb3
    go_wp2
    go_ret
    exact ⟨rfl, Hw3.out⟩
  have hd0 : decide ((8 : Int) < (n : Int)) = false := decide_eq_false (by omega)
  have hn : n ≤ 8 := by omega
  clear hbig
  by_cases hbig : 8 < n'
  · have hd1 : decide ((8 : Int) < (n' : Int)) = true := decide_eq_true (by omega)
    clear hbig
    go_enter Try.func5, Try.ntmps5
    go_upto_region 1 with fail
    generalize (w.alloc (.cells #[.int .u8 (a.x0 : Int), .int .u8 (a.x1 : Int), .int .u8 (a.x2 : Int), .int .u8 (a.x3 : Int), .int .u8 (a.x4 : Int), .int .u8 (a.x5 : Int), .int .u8 (a.x6 : Int), .int .u8 (a.x7 : Int)] 22)).alloc (.cells #[.int .u8 (b.x0 : Int), .int .u8 (b.x1 : Int), .int .u8 (b.x2 : Int), .int .u8 (b.x3 : Int), .int .u8 (b.x4 : Int), .int .u8 (b.x5 : Int), .int .u8 (b.x6 : Int), .int .u8 (b.x7 : Int)] 22) = w1 at *
    go_wp2_with fail
    refine (known_any w1).mono ?_
    rintro e w2 ⟨rfl, hb2⟩
    have Hw2 := Lib.hid (Hw0.out.trans (hb2.mono Hw0.out.size))
    clear hb2
    go_wp2_with fail
    refine (known_any w2).mono ?_
    rintro e w3 ⟨rfl, hb3⟩
    have Hw3 := Lib.hid (Hw2.out.trans (hb3.mono Hw2.out.size))
    clear hb3
    go_wp2
    go_ret
    exact ⟨rfl, Hw3.out⟩
  have hd1 : decide ((8 : Int) < (n' : Int)) = false := decide_eq_false (by omega)
  have hn' : n' ≤ 8 := by omega
  clear hbig
  obtain ⟨q, hq⟩ : ∃ q, q = h % 4 := ⟨_, rfl⟩
  have e4 : (h : Int) % 4 = (q : Int) := by omega
  have hq4 : q ≤ 3 := by omega
  have e5 : ((q + 1 : Nat) : Int) = (q : Int) + 1 := by omega
  clear hq
  go_enter Try.func5, Try.ntmps5
  go_upto_region 1 with fail
  generalize (w.alloc (.cells #[.int .u8 (a.x0 : Int), .int .u8 (a.x1 : Int), .int .u8 (a.x2 : Int), .int .u8 (a.x3 : Int), .int .u8 (a.x4 : Int), .int .u8 (a.x5 : Int), .int .u8 (a.x6 : Int), .int .u8 (a.x7 : Int)] 22)).alloc (.cells #[.int .u8 (b.x0 : Int), .int .u8 (b.x1 : Int), .int .u8 (b.x2 : Int), .int .u8 (b.x3 : Int), .int .u8 (b.x4 : Int), .int .u8 (b.x5 : Int), .int .u8 (b.x6 : Int), .int .u8 (b.x7 : Int)] 22) = w1 at *
  go_wp2_with fail
  refine (known_any w1).mono ?_
  rintro e w2 ⟨rfl, hb2⟩
  have Hw2 := Lib.hid (Hw0.out.trans (hb2.mono Hw0.out.size)); have hx2 := block_below HA0.out hb2 (block_lt HA0.out); have hy2 := block_below HB0.out hb2 (block_lt HB0.out)
  have HX2 := Lib.hid hx2; have HY2 := Lib.hid hy2
  have hW2 : w.heap.size + 2 ≤ w2.heap.size := by have := block_lt HB0.out; have := hb2.size; omega
  clear hb2 hy2 HA0 HB0 Hw0 Hz0
  go_upto_region 4 with fail
  simp only [e4]
  obtain ⟨zf, x0, x1, x2, x3, x4, x5, x6, x7⟩ := free8 hx2
  have hlx := block_lt hx2
  clear hx2 zf
  go_wp2_with fail
  refine (new_any a q w2 Ha.out (by omega)).mono ?_
  rintro e w3 ⟨bx, F, T0, T1, rfl, ha3, hb3⟩
  have HA3 := Lib.hid ha3; have Hw3 := Lib.hid (Hw2.out.trans (hb3.mono Hw2.out.size)); have HX3 := Lib.hid (block_below HX2.out hb3 (block_lt HX2.out)); have HY3 := Lib.hid (block_below HY2.out hb3 (block_lt HY2.out))
  clear ha3 hb3 x0 x1 x2 x3 x4 x5 x6 x7 HX2 HY2 hlx
  obtain ⟨zf, x0, x1, x2, x3, x4, x5, x6, x7⟩ := free8 HY3.out
  have hly := block_lt HY3.out
  clear zf
  go_wp2_with fail
  refine (new_any b q w3 Hbo.out (by omega)).mono ?_
  rintro e w4 ⟨by_, G, S0, S1, rfl, ha4, hb4⟩
  have HB4 := Lib.hid ha4; have HA4 := Lib.hid (HA3.out.below hb4); have Hw4 := Lib.hid (Hw3.out.trans (hb4.mono Hw3.out.size)); have HX4 := Lib.hid (block_below HX3.out hb4 (block_lt HX3.out)); have HY4 := Lib.hid (block_below HY3.out hb4 (block_lt HY3.out))
  have Hd1 := Lib.hid (fun k (hk : foot F T0 T1 k) => (HA3.out.foot_lt k hk).2)
  clear ha4 hb4 x0 x1 x2 x3 x4 x5 x6 x7 HX3 HY3 HA3 hly
  obtain ⟨zf, x0, x1, x2, x3, x4, x5, x6, x7⟩ := free8 HX4.out
  have hlx := block_lt HX4.out
  clear zf
  go_wp2_with fail
  rw [← e5]
  refine (new_any a (q + 1) w4 Ha.out (by omega)).mono ?_
  rintro e w5 ⟨bz, H, U0, U1, rfl, ha5, hb5⟩
  have HT5 : Hid (Tri w5 w2.heap.size F G H T0 T1 S0 S1 U0 U1 bx by_ bz (RingM.new a q) (RingM.new b q) (RingM.new a (q + 1))) := by
    have s3 : w2.heap.size ≤ w3.heap.size := by
      have := HA4.out.hB
      obtain ⟨k1, k2⟩ := HA4.out.foot_lt bx (.inl (by obtain ⟨_, _, l, _⟩ := HA4.out.led; exact l.fb))
      have := Hd1.out bx (.inl (by obtain ⟨_, _, l, _⟩ := HA4.out.led; exact l.fb))
      omega
    have s4 : w3.heap.size ≤ w4.heap.size := HB4.out.hB
    refine Lib.hid ⟨held_new (HA4.out.below hb5) (Nat.le_refl _), held_new (HB4.out.below hb5) s3, held_new ha5 (by omega), fun k h1 h2 => ?_, fun k h1 h2 => ?_, fun k h1 h2 => ?_⟩
    · have := Hd1.out k h1; have := (HB4.out.foot_lt k h2).1; omega
    · have := Hd1.out k h1; have := (ha5.foot_lt k h2).1; omega
    · have := (HB4.out.foot_lt k h1).2; have := (ha5.foot_lt k h2).1; omega
  have Hw5 := Lib.hid (Hw4.out.trans (hb5.mono Hw4.out.size)); have HX5 := Lib.hid (block_below HX4.out hb5 (block_lt HX4.out)); have HY5 := Lib.hid (block_below HY4.out hb5 (block_lt HY4.out))
  have HW := Lib.hid Hw2.out.size
  clear ha5 hb5 x0 x1 x2 x3 x4 x5 x6 x7 HX4 HY4 HA4 HB4 hlx Hd1 Hw4 Hw3 Hw2
  generalize w2.heap.size = W at *
  generalize hx0 : RingM.new a q = x0 at *
  have Hx0 := Lib.hid hx0
  clear hx0
  go_wp2
  go_loopw [73] (fun i wr => ∃ (k : Nat) (F' G' H' : Nat → Prop), k ≤ n ∧ i = .int .i64 (k : Int) ∧ Tri wr W F' G' H' T0 T1 S0 S1 U0 U1 bx by_ bz (x0.resAll (l.take k)) ((RingM.new b q).resAll (l.take k)) ((RingM.new a (q + 1)).resAll (l.take k)) ∧ Below w.heap.size w wr ∧ wr.heap[w.heap.size]? = some (.cells #[.int .u8 (a.x0 : Int), .int .u8 (a.x1 : Int), .int .u8 (a.x2 : Int), .int .u8 (a.x3 : Int), .int .u8 (a.x4 : Int), .int .u8 (a.x5 : Int), .int .u8 (a.x6 : Int), .int .u8 (a.x7 : Int)] 22 (0, 0)) ∧ wr.heap[w.heap.size + 1]? = some (.cells #[.int .u8 (b.x0 : Int), .int .u8 (b.x1 : Int), .int .u8 (b.x2 : Int), .int .u8 (b.x3 : Int), .int .u8 (b.x4 : Int), .int .u8 (b.x5 : Int), .int .u8 (b.x6 : Int), .int .u8 (b.x7 : Int)] 22 (0, 0))) (fun i _ => n - (RowKit.intOf i).toNat)
  case atStart => exact ⟨0, F, G, H, Nat.zero_le _, rfl, HT5.out, Hw5.out, HX5.out, HY5.out⟩
  case round =>
    obtain ⟨k, F', G', H', hk, rfl, ht, hw, hx, hy⟩ := hrel
    have HT := Lib.hid ht; have Hw := Lib.hid hw; have HX := Lib.hid hx; have HY := Lib.hid hy
    clear ht hw hx hy HT5 Hw5 HX5 HY5
    by_cases hlt : k < n
    · have hd2 : decide ((k : Int) < (n : Int)) = true := decide_eq_true (by omega)
      have hki : (k : Int) < (n : Int) := by omega
      obtain ⟨bb, o, rfl, hbB, y0, y1, y2, y3, y4, y5, y6, y7⟩ := (Hr.out.below Hw.out (Nat.le_refl _)).di8 hlt
      have hkl : k < l.length := by have := Hl.out; omega
      have Hs1 := Lib.hid (resAll_snoc x0 l hkl); have Hs2 := Lib.hid (resAll_snoc (RingM.new b q) l hkl); have Hs3 := Lib.hid (resAll_snoc (RingM.new a (q + 1)) l hkl)
      have Hq := Lib.hid (getD_ok Hok.out k)
      generalize l.getD k D8.zero = m at *
      generalize x0.resAll (l.take k) = rx at *
      generalize (RingM.new b q).resAll (l.take k) = ry at *
      generalize (RingM.new a (q + 1)).resAll (l.take k) = rz at *
      have Hk := Lib.hid hlt
      have hbl : bb < wr.heap.size := by have := Hw.out.size; omega
      have hb2 := h_one wr (.cells #[.int .u8 (m.x0 : Int), .int .u8 (m.x1 : Int), .int .u8 (m.x2 : Int), .int .u8 (m.x3 : Int), .int .u8 (m.x4 : Int), .int .u8 (m.x5 : Int), .int .u8 (m.x6 : Int), .int .u8 (m.x7 : Int)] 22)
      have hM2 : (wr.alloc (.cells #[.int .u8 (m.x0 : Int), .int .u8 (m.x1 : Int), .int .u8 (m.x2 : Int), .int .u8 (m.x3 : Int), .int .u8 (m.x4 : Int), .int .u8 (m.x5 : Int), .int .u8 (m.x6 : Int), .int .u8 (m.x7 : Int)] 22)).heap[wr.heap.size]? = some (.cells #[.int .u8 (m.x0 : Int), .int .u8 (m.x1 : Int), .int .u8 (m.x2 : Int), .int .u8 (m.x3 : Int), .int .u8 (m.x4 : Int), .int .u8 (m.x5 : Int), .int .u8 (m.x6 : Int), .int .u8 (m.x7 : Int)] 22 (0, 0)) := heap_alloc_new wr _
      have HT2 := Lib.hid (HT.out.below hb2); have Hw2' := Lib.hid (Hw.out.trans (hb2.mono Hw.out.size)); have HX2' := Lib.hid (block_below HX.out hb2 (block_lt HX.out)); have HY2' := Lib.hid (block_below HY.out hb2 (block_lt HY.out)); have HM2 := Lib.hid hM2
      have Hf := Lib.hid (And.intro (fun z (hz : F' z) => HT.out.x.lt z (.inl hz)) (And.intro (fun z (hz : G' z) => HT.out.y.lt z (.inl hz)) (fun z (hz : H' z) => HT.out.z.lt z (.inl hz))))
      go_upto_region 12 with fail
      generalize wr.alloc (.cells #[.int .u8 (m.x0 : Int), .int .u8 (m.x1 : Int), .int .u8 (m.x2 : Int), .int .u8 (m.x3 : Int), .int .u8 (m.x4 : Int), .int .u8 (m.x5 : Int), .int .u8 (m.x6 : Int), .int .u8 (m.x7 : Int)] 22) = v2 at *
      clear y0 y1 y2 y3 y4 y5 y6 y7 HT Hw HX HY hb2 hM2
      have hlm := block_lt HM2.out
      obtain ⟨zf, y0, y1, y2, y3, y4, y5, y6, y7⟩ := free8 HM2.out
      clear zf
      go_wp2_with fail
      refine (held_reserve m HT2.out.x Hq.out).mono ?_
      rintro e v3 ⟨rfl, hc3, hh3⟩
      have HT3 := Lib.hid ((HT2.out.first hc3 hh3).rot)
      have HM3 := Lib.hid ((hc3.block _ hlm (fun hf => by have := (Hf.out.1 _ hf).2; omega)).trans HM2.out)
      have HX3' := Lib.hid ((hc3.block _ (block_lt HX2'.out) (fun hf => by have := (Hf.out.1 _ hf).1; omega)).trans HX2'.out); have HY3' := Lib.hid ((hc3.block _ (block_lt HY2'.out) (fun hf => by have := (Hf.out.1 _ hf).1; omega)).trans HY2'.out)
      have Hw3' := Lib.hid (Hw2'.out.trans (hc3.below (fun z hz => Nat.le_trans HW.out (Hf.out.1 z hz).1) Hw2'.out.size))
      clear hc3 hh3 y0 y1 y2 y3 y4 y5 y6 y7 HT2 HM2 HX2' HY2' Hw2' hlm
      have hlm := block_lt HM3.out
      obtain ⟨zf, y0, y1, y2, y3, y4, y5, y6, y7⟩ := free8 HM3.out
      clear zf
      go_wp2_with fail
      refine (held_reserve m HT3.out.x Hq.out).mono ?_
      rintro e v4 ⟨rfl, hc4, hh4⟩
      have HT4 := Lib.hid ((HT3.out.first hc4 hh4).rot)
      have HM4 := Lib.hid ((hc4.block _ hlm (fun hf => by have := (Hf.out.2.1 _ hf).2; omega)).trans HM3.out)
      have HX4' := Lib.hid ((hc4.block _ (block_lt HX3'.out) (fun hf => by have := (Hf.out.2.1 _ hf).1; omega)).trans HX3'.out); have HY4' := Lib.hid ((hc4.block _ (block_lt HY3'.out) (fun hf => by have := (Hf.out.2.1 _ hf).1; omega)).trans HY3'.out)
      have Hw4' := Lib.hid (Hw3'.out.trans (hc4.below (fun z hz => Nat.le_trans HW.out (Hf.out.2.1 z hz).1) Hw3'.out.size))
      clear hc4 hh4 y0 y1 y2 y3 y4 y5 y6 y7 HT3 HM3 HX3' HY3' Hw3' hlm
      have hlm := block_lt HM4.out
      obtain ⟨zf, y0, y1, y2, y3, y4, y5, y6, y7⟩ := free8 HM4.out
      clear zf
      go_wp2_with fail
      refine (held_reserve m HT4.out.x Hq.out).mono ?_
      rintro e v5 ⟨rfl, hc5, hh5⟩
      have ht5 := (HT4.out.first hc5 hh5).rot
      rw [← Hs1.out, ← Hs2.out, ← Hs3.out] at ht5
      have HT5' := Lib.hid ht5
      have HX5' := Lib.hid ((hc5.block _ (block_lt HX4'.out) (fun hf => by have := (Hf.out.2.2 _ hf).1; omega)).trans HX4'.out); have HY5' := Lib.hid ((hc5.block _ (block_lt HY4'.out) (fun hf => by have := (Hf.out.2.2 _ hf).1; omega)).trans HY4'.out)
      have Hw5' := Lib.hid (Hw4'.out.trans (hc5.below (fun z hz => Nat.le_trans HW.out (Hf.out.2.2 z hz).1) Hw4'.out.size))
      clear hc5 hh5 ht5 y0 y1 y2 y3 y4 y5 y6 y7 HT4 HM4 HX4' HY4' Hw4' hlm
      go_wp2
      go_roundw
      case rel => exact ⟨k + 1, _, _, _, Hk.out, by go_num, HT5'.out, Hw5'.out, HX5'.out, HY5'.out⟩
      case measure => have := Hk.out; simp [RowKit.intOf]; omega
    · obtain rfl : k = n := by omega
      have hd2 : decide ((k : Int) < (k : Int)) = false := by simp
      have htk : l.take k = l := List.take_of_length_le (by rw [Hl.out]; exact Nat.le_refl _)
      have Hxy := Lib.hid (same_secret a b q l)
      have Hxz := Lib.hid (same_height a q l)
      rw [htk] at HT
      rw [Hx0.out] at Hxy Hxz
      have Hself := Lib.hid (sameR_self (x0.resAll l))
      clear hlt hk htk Hx0
      generalize x0.resAll l = rx at *
      generalize (RingM.new b q).resAll l = ry at *
      generalize (RingM.new a (q + 1)).resAll l = rz at *
      have hG : ∀ (x y : Operand) u, (eqGuard .eql 22 x y (.agg #[.int .u8 (a.x0 : Int), .int .u8 (a.x1 : Int), .int .u8 (a.x2 : Int), .int .u8 (a.x3 : Int), .int .u8 (a.x4 : Int), .int .u8 (a.x5 : Int), .int .u8 (a.x6 : Int), .int .u8 (a.x7 : Int)]) (.agg #[.int .u8 (b.x0 : Int), .int .u8 (b.x1 : Int), .int .u8 (b.x2 : Int), .int .u8 (b.x3 : Int), .int .u8 (b.x4 : Int), .int .u8 (b.x5 : Int), .int .u8 (b.x6 : Int), .int .u8 (b.x7 : Int)])).run Try.prog u = .ok () u := fun x y u => by first | (go_simp; done) | exact run_eqGuard_agg _ _ _ _ _ _ (by kernel_rfl)
      have hE : ∀ u, (binOp .eql 22 (.agg #[.int .u8 (a.x0 : Int), .int .u8 (a.x1 : Int), .int .u8 (a.x2 : Int), .int .u8 (a.x3 : Int), .int .u8 (a.x4 : Int), .int .u8 (a.x5 : Int), .int .u8 (a.x6 : Int), .int .u8 (a.x7 : Int)]) (.agg #[.int .u8 (b.x0 : Int), .int .u8 (b.x1 : Int), .int .u8 (b.x2 : Int), .int .u8 (b.x3 : Int), .int .u8 (b.x4 : Int), .int .u8 (b.x5 : Int), .int .u8 (b.x6 : Int), .int .u8 (b.x7 : Int)])).run Try.prog u = .ok (.bool (sameD a b)) u := fun u => eql_digR _ _ _ _ _ _ _ _ _ _ _ _ _ _ _ _ u
      go_upto_region 16 with fail
      have hS : wr.drew.heap[w.heap.size]? = some (.cells #[.int .u8 (a.x0 : Int), .int .u8 (a.x1 : Int), .int .u8 (a.x2 : Int), .int .u8 (a.x3 : Int), .int .u8 (a.x4 : Int), .int .u8 (a.x5 : Int), .int .u8 (a.x6 : Int), .int .u8 (a.x7 : Int)] 22 (0, 0)) ∧ wr.drew.heap[w.heap.size + 1]? = some (.cells #[.int .u8 (b.x0 : Int), .int .u8 (b.x1 : Int), .int .u8 (b.x2 : Int), .int .u8 (b.x3 : Int), .int .u8 (b.x4 : Int), .int .u8 (b.x5 : Int), .int .u8 (b.x6 : Int), .int .u8 (b.x7 : Int)] 22 (0, 0)) := ⟨HX.out, HY.out⟩
      refine wp_region_held_drew (S := fun w' => w'.heap[w.heap.size]? = some (.cells #[.int .u8 (a.x0 : Int), .int .u8 (a.x1 : Int), .int .u8 (a.x2 : Int), .int .u8 (a.x3 : Int), .int .u8 (a.x4 : Int), .int .u8 (a.x5 : Int), .int .u8 (a.x6 : Int), .int .u8 (a.x7 : Int)] 22 (0, 0)) ∧ w'.heap[w.heap.size + 1]? = some (.cells #[.int .u8 (b.x0 : Int), .int .u8 (b.x1 : Int), .int .u8 (b.x2 : Int), .int .u8 (b.x3 : Int), .int .u8 (b.x4 : Int), .int .u8 (b.x5 : Int), .int .u8 (b.x6 : Int), .int .u8 (b.x7 : Int)] 22 (0, 0))) (by kernel_rfl) hS (fun hHeld => ?_)
      rw [show Array.replicate _ false = (#[false, false, false, false, false, false, false, false, false, false, false, false, false, false, false, false, false, false, false, false, false, false] : Array Bool) from rfl]
      refine takeH 0 (some 87) (v := ?_) rfl (by kernel_rfl) (by kernel_rfl) (by kernel_rfl) (by kernel_rfl) (fun _ _ _ h => h) (Or.inl ⟨by kernel_rfl, ?hy⟩) (by assumption) ?_
      case hy =>
        intro w' hSw
        clear hSw
        first
          | (go_simp; done)
          | (go_simp; with_reducible rfl)
      simp only [Act.put, List.setIfInBounds_toArray, List.set_cons_zero, List.set_cons_succ]
      refine takeH 1 (some 88) (v := ?_) rfl (by kernel_rfl) (by kernel_rfl) (by kernel_rfl) (by kernel_rfl) (fun _ _ _ h => h) (Or.inl ⟨by kernel_rfl, ?hy⟩) (by assumption) ?_
      case hy =>
        intro w' hSw
        clear hSw
        first
          | (go_simp; done)
          | (go_simp; with_reducible rfl)
      simp only [Act.put, List.setIfInBounds_toArray, List.set_cons_zero, List.set_cons_succ]
      refine takeH 3 (some 90) (v := .agg #[.int .u8 (a.x0 : Int), .int .u8 (a.x1 : Int), .int .u8 (a.x2 : Int), .int .u8 (a.x3 : Int), .int .u8 (a.x4 : Int), .int .u8 (a.x5 : Int), .int .u8 (a.x6 : Int), .int .u8 (a.x7 : Int)]) rfl (by kernel_rfl) (by kernel_rfl) (by kernel_rfl) (by kernel_rfl) (fun _ _ _ h => h) (Or.inl ⟨by kernel_rfl, ?hy⟩) (by assumption) ?_
      case hy =>
        intro w' hSw
        try dsimp only at hSw
        simp [execOp, Act.eval, load_d8 hSw.1, Result.andThen]
      simp only [Act.put, List.setIfInBounds_toArray, List.set_cons_zero, List.set_cons_succ]
      refine takeH 4 (some 91) (v := .agg #[.int .u8 (b.x0 : Int), .int .u8 (b.x1 : Int), .int .u8 (b.x2 : Int), .int .u8 (b.x3 : Int), .int .u8 (b.x4 : Int), .int .u8 (b.x5 : Int), .int .u8 (b.x6 : Int), .int .u8 (b.x7 : Int)]) rfl (by kernel_rfl) (by kernel_rfl) (by kernel_rfl) (by kernel_rfl) (fun _ _ _ h => h) (Or.inl ⟨by kernel_rfl, ?hy⟩) (by assumption) ?_
      case hy =>
        intro w' hSw
        try dsimp only at hSw
        simp [execOp, Act.eval, load_d8 hSw.2, Result.andThen]
      simp only [Act.put, List.setIfInBounds_toArray, List.set_cons_zero, List.set_cons_succ]
      refine takeH 5 (some 92) (v := .bool (sameD a b)) rfl (by kernel_rfl) (by kernel_rfl) (by kernel_rfl) (by kernel_rfl) (fun _ _ _ h => h) (Or.inl ⟨by kernel_rfl, fun w' _ => exec_binD (by rfl) (by rfl) (by rfl) (hG _ _ w') (hE w')⟩) (by assumption) ?_
      simp only [Act.put, List.setIfInBounds_toArray, List.set_cons_zero, List.set_cons_succ]
      have ht1 := HT.out.below (Below.refl wr.heap.size wr).drew
      refine wpAnyH_ready (rs := [2]) (by kernel_rfl) (by simp) ?_
      refine AllReadyH.cons rfl (fun K hK => ?_) AllReadyH.nil
      rw [if_pos (by kernel_rfl)]
      go_simp
      refine (same_any ht1.x.at_.choose_spec.2 ht1.y.at_.choose_spec.2).mono ?_
      rintro e v1 ⟨rfl, hb1⟩
      rw [Hxy.out]
      have HT1 := Lib.hid (ht1.below hb1)
      have hS1 := And.intro (block_below hS.1 hb1 (block_lt hS.1)) (block_below hS.2 hb1 (block_lt hS.2))
      have Hw1 := Lib.hid (Hw.out.trans ((((Below.refl wr.heap.size wr).drew).trans hb1).mono Hw.out.size))
      clear ht1 hb1 HT hS hE hG
      refine hK.out _ _ hS1 (fun _ => ?_)
      clear hK K
      simp only [List.setIfInBounds_toArray, List.set_cons_zero, List.set_cons_succ]
      generalize sameD a b = ab at *
      refine takeH 6 (some 93) (v := .bool false) rfl (by kernel_rfl) (by kernel_rfl) (by kernel_rfl) (by kernel_rfl) (fun _ _ _ h => h) (Or.inl ⟨by kernel_rfl, fun w' _ => by cases ab <;> kernel_rfl⟩) (by assumption) ?_
      simp only [Act.put, List.setIfInBounds_toArray, List.set_cons_zero, List.set_cons_succ]
      refine takeH 7 (some 94) (v := ?_) rfl (by kernel_rfl) (by kernel_rfl) (by kernel_rfl) (by kernel_rfl) (fun _ _ _ h => h) (Or.inl ⟨by kernel_rfl, ?hy⟩) (by assumption) ?_
      case hy =>
        intro w' hSw
        clear hSw
        first
          | (go_simp; done)
          | (go_simp; with_reducible rfl)
      simp only [Act.put, List.setIfInBounds_toArray, List.set_cons_zero, List.set_cons_succ]
      refine takeH 8 (some 95) (v := ?_) rfl (by kernel_rfl) (by kernel_rfl) (by kernel_rfl) (by kernel_rfl) (fun _ _ _ h => h) (Or.inl ⟨by kernel_rfl, ?hy⟩) (by assumption) ?_
      case hy =>
        intro w' hSw
        clear hSw
        first
          | (go_simp; done)
          | (go_simp; with_reducible rfl)
      simp only [Act.put, List.setIfInBounds_toArray, List.set_cons_zero, List.set_cons_succ]
      refine takeH 9 (some 96) (v := ?_) rfl (by kernel_rfl) (by kernel_rfl) (by kernel_rfl) (by kernel_rfl) (fun _ _ _ h => h) (Or.inl ⟨by kernel_rfl, ?hy⟩) (by assumption) ?_
      case hy =>
        intro w' hSw
        clear hSw
        first
          | (go_simp; done)
          | (go_simp; with_reducible rfl)
      simp only [Act.put, List.setIfInBounds_toArray, List.set_cons_zero, List.set_cons_succ]
      refine wpAnyH_ready (rs := [10]) (by kernel_rfl) (by simp) ?_
      refine AllReadyH.cons rfl (fun K hK => ?_) AllReadyH.nil
      rw [if_pos (by kernel_rfl)]
      go_simp
      refine (same_any HT1.out.x.at_.choose_spec.2 HT1.out.z.at_.choose_spec.2).mono ?_
      rintro e v2 ⟨rfl, hb2⟩
      rw [Hxz.out]
      have HT2 := Lib.hid (HT1.out.below hb2); have Hw2 := Lib.hid (Hw1.out.trans (hb2.mono Hw1.out.size))
      have hS2 := And.intro (block_below hS1.1 hb2 (block_lt hS1.1)) (block_below hS1.2 hb2 (block_lt hS1.2))
      clear hb2 HT1 Hw1 hS1
      refine hK.out _ _ hS2 (fun _ => ?_)
      clear hK K
      simp only [List.setIfInBounds_toArray, List.set_cons_zero, List.set_cons_succ]
      refine takeH 11 (some 98) (v := ?_) rfl (by kernel_rfl) (by kernel_rfl) (by kernel_rfl) (by kernel_rfl) (fun _ _ _ h => h) (Or.inl ⟨by kernel_rfl, ?hy⟩) (by assumption) ?_
      case hy =>
        intro w' hSw
        clear hSw
        first
          | (go_simp; done)
          | (go_simp; with_reducible rfl)
      simp only [Act.put, List.setIfInBounds_toArray, List.set_cons_zero, List.set_cons_succ]
      refine takeH 12 (some 99) (v := ?_) rfl (by kernel_rfl) (by kernel_rfl) (by kernel_rfl) (by kernel_rfl) (fun _ _ _ h => h) (Or.inl ⟨by kernel_rfl, ?hy⟩) (by assumption) ?_
      case hy =>
        intro w' hSw
        clear hSw
        first
          | (go_simp; done)
          | (go_simp; with_reducible rfl)
      simp only [Act.put, List.setIfInBounds_toArray, List.set_cons_zero, List.set_cons_succ]
      refine takeH 13 (some 100) (v := ?_) rfl (by kernel_rfl) (by kernel_rfl) (by kernel_rfl) (by kernel_rfl) (fun _ _ _ h => h) (Or.inl ⟨by kernel_rfl, ?hy⟩) (by assumption) ?_
      case hy =>
        intro w' hSw
        clear hSw
        first
          | (go_simp; done)
          | (go_simp; with_reducible rfl)
      simp only [Act.put, List.setIfInBounds_toArray, List.set_cons_zero, List.set_cons_succ]
      refine wpAnyH_ready (rs := [14]) (by kernel_rfl) (by simp) ?_
      refine AllReadyH.cons rfl (fun K hK => ?_) AllReadyH.nil
      rw [if_pos (by kernel_rfl)]
      go_simp
      refine (same_rn ⟨bx, 0, none⟩ v2).mono ?_
      rintro e v3 ⟨rfl, hb3⟩
      have HT3 := Lib.hid (HT2.out.below hb3); have Hw3 := Lib.hid (Hw2.out.trans (hb3.mono Hw2.out.size))
      have hS3 := And.intro (block_below hS2.1 hb3 (block_lt hS2.1)) (block_below hS2.2 hb3 (block_lt hS2.2))
      clear hb3 HT2 Hw2 hS2
      refine hK.out _ _ hS3 (fun _ => ?_)
      clear hK K
      simp only [List.setIfInBounds_toArray, List.set_cons_zero, List.set_cons_succ]
      refine takeH 15 (some 102) (v := ?_) rfl (by kernel_rfl) (by kernel_rfl) (by kernel_rfl) (by kernel_rfl) (fun _ _ _ h => h) (Or.inl ⟨by kernel_rfl, ?hy⟩) (by assumption) ?_
      case hy =>
        intro w' hSw
        clear hSw
        first
          | (go_simp; done)
          | (go_simp; with_reducible rfl)
      simp only [Act.put, List.setIfInBounds_toArray, List.set_cons_zero, List.set_cons_succ]
      refine takeH 16 (some 103) (v := ?_) rfl (by kernel_rfl) (by kernel_rfl) (by kernel_rfl) (by kernel_rfl) (fun _ _ _ h => h) (Or.inl ⟨by kernel_rfl, ?hy⟩) (by assumption) ?_
      case hy =>
        intro w' hSw
        clear hSw
        first
          | (go_simp; done)
          | (go_simp; with_reducible rfl)
      simp only [Act.put, List.setIfInBounds_toArray, List.set_cons_zero, List.set_cons_succ]
      refine takeH 17 (some 104) (v := ?_) rfl (by kernel_rfl) (by kernel_rfl) (by kernel_rfl) (by kernel_rfl) (fun _ _ _ h => h) (Or.inl ⟨by kernel_rfl, ?hy⟩) (by assumption) ?_
      case hy =>
        intro w' hSw
        clear hSw
        first
          | (go_simp; done)
          | (go_simp; with_reducible rfl)
      simp only [Act.put, List.setIfInBounds_toArray, List.set_cons_zero, List.set_cons_succ]
      refine takeH 18 (some 105) (v := ?_) rfl (by kernel_rfl) (by kernel_rfl) (by kernel_rfl) (by kernel_rfl) (fun _ _ _ h => h) (Or.inl ⟨by kernel_rfl, ?hy⟩) (by assumption) ?_
      case hy =>
        intro w' hSw
        clear hSw
        first
          | (go_simp; done)
          | (go_simp; with_reducible rfl)
      simp only [Act.put, List.setIfInBounds_toArray, List.set_cons_zero, List.set_cons_succ]
      refine wpAnyH_ready (rs := [19]) (by kernel_rfl) (by simp) ?_
      refine AllReadyH.cons rfl (fun K hK => ?_) AllReadyH.nil
      rw [if_pos (by kernel_rfl)]
      go_simp
      refine (same_any HT3.out.x.at_.choose_spec.2 HT3.out.x.at_.choose_spec.2).mono ?_
      rintro e v4 ⟨rfl, hb4⟩
      rw [Hself.out]
      have HT4 := Lib.hid (HT3.out.below hb4); have Hw4 := Lib.hid (Hw3.out.trans (hb4.mono Hw3.out.size))
      have hS4 := And.intro (block_below hS3.1 hb4 (block_lt hS3.1)) (block_below hS3.2 hb4 (block_lt hS3.2))
      clear hb4 HT3 Hw3 hS3
      refine hK.out _ _ hS4 (fun _ => ?_)
      clear hK K
      simp only [List.setIfInBounds_toArray, List.set_cons_zero, List.set_cons_succ]
      refine takeH 20 (some 107) (v := ?_) rfl (by kernel_rfl) (by kernel_rfl) (by kernel_rfl) (by kernel_rfl) (fun _ _ _ h => h) (Or.inl ⟨by kernel_rfl, ?hy⟩) (by assumption) ?_
      case hy =>
        intro w' hSw
        clear hSw
        first
          | (go_simp; done)
          | (go_simp; with_reducible rfl)
      simp only [Act.put, List.setIfInBounds_toArray, List.set_cons_zero, List.set_cons_succ]
      refine takeH 21 (some 108) (v := ?_) rfl (by kernel_rfl) (by kernel_rfl) (by kernel_rfl) (by kernel_rfl) (fun _ _ _ h => h) (Or.inl ⟨by kernel_rfl, ?hy⟩) (by assumption) ?_
      case hy =>
        intro w' hSw
        clear hSw
        first
          | (go_simp; done)
          | (go_simp; with_reducible rfl)
      simp only [Act.put, List.setIfInBounds_toArray, List.set_cons_zero, List.set_cons_succ]
      refine wpAnyH_done (by kernel_rfl) ?_ _
      go_wp2_with fail
      have Hok5 := Lib.hid HT4.out.x.at_.choose_spec.2.ok
      have hxlt := HT4.out.x.lt
      have HXl := Lib.hid hxlt
      refine (rclone_any HT4.out.x.at_.choose_spec.2).mono ?_
      rintro e v5 ⟨Fc, bc, mc, pc, rfl, hlc, hb5⟩
      have HX5 := Lib.hid (HT4.out.x.below hb5); have HL5 := Lib.hid hlc; have Hw5 := Lib.hid (Hw4.out.trans (hb5.mono Hw4.out.size)); have HS5 := Lib.hid hb5.size
      clear hlc hb5 HT4 Hw4 hS4 hxlt Hxy Hxz
      generalize v4.heap.size = Bc at *
      go_wp2_with fail
      refine (save_any HX5.out.at_.choose_spec.2).mono ?_
      rintro e v6 ⟨As, ns, cs, rfl, ho6, hn6, hb6⟩
      have hn7 : ns ≤ 1000000 := by rw [hn6]; exact Nat.le_trans (saveB_len Hok5.out) (by decide)
      have HX6 := Lib.hid (HX5.out.below hb6); have HL6 := Lib.hid (HL5.out.below hb6); have Hw6 := Lib.hid (Hw5.out.trans (hb6.mono Hw5.out.size)); have HR6 := Lib.hid (Rd.of_own ho6); have HS6 := Lib.hid (Nat.le_trans HS5.out hb6.size)
      clear ho6 hn6 hb6 HX5 HL5 Hw5 HS5
      go_wp2_with fail
      refine (open_any As ns cs (saveB rx) v6 HR6.out hn7 (saveB_lt Hok5.out)).mono ?_
      intro e v7 hop
      have hsv := open_save Hok5.out
      unfold GivesO at hop
      rw [hsv] at hop
      obtain ⟨hb7, bo, Fo, O0, O1, rfl, ho7⟩ := hop
      have HX7 := Lib.hid (HX6.out.below hb7); have HL7 := Lib.hid (HL6.out.below hb7); have Hw7 := Lib.hid (Hw6.out.trans (hb7.mono Hw6.out.size)); have HO7 := Lib.hid ho7; have HS7 := Lib.hid (Nat.le_trans HS6.out hb7.size)
      have Hkk := Lib.hid (And.intro Hok5.out.2.1 Hok5.out.2.2.2.2)
      clear hb7 ho7 hsv HX6 HL6 Hw6 HR6 HS6 hn7
      go_wp2_with fail
      refine (same_led (r := rx) (r' := rx) HL7.out HX7.out.at_.choose_spec.2.led.choose_spec.choose_spec.1 Hkk.out Hkk.out).mono ?_
      rintro e v8 ⟨rfl, hb8⟩
      rw [Hself.out]
      have HX8 := Lib.hid (HX7.out.below hb8); have HL8 := Lib.hid (HL7.out.below hb8); have Hw8 := Lib.hid (Hw7.out.trans (hb8.mono Hw7.out.size)); have HO8 := Lib.hid (HO7.out.below hb8); have HS8 := Lib.hid (Nat.le_trans HS7.out hb8.size)
      clear hb8 HX7 HL7 Hw7 HO7 HS7
      go_wp2_with fail
      refine (same_any HO8.out HX8.out.at_.choose_spec.2).mono ?_
      rintro e v9 ⟨rfl, hb9⟩
      rw [Hself.out]
      have HX9 := Lib.hid (HX8.out.below hb9); have HL9 := Lib.hid (HL8.out.below hb9); have Hw9 := Lib.hid (Hw8.out.trans (hb9.mono Hw8.out.size)); have HS9 := Lib.hid (Nat.le_trans HS8.out hb9.size)
      clear hb9 HX8 HL8 Hw8 HO8 HS8
      go_wp2_with fail
      refine (used_led HX9.out.at_.choose_spec.2.led.choose_spec.choose_spec.1).mono ?_
      rintro e v10 ⟨rfl, hb10⟩
      have HX10 := Lib.hid (HX9.out.below hb10); have HL10 := Lib.hid (HL9.out.below hb10); have Hw10 := Lib.hid (Hw9.out.trans (hb10.mono Hw9.out.size)); have HS10 := Lib.hid (Nat.le_trans HS9.out hb10.size)
      clear hb10 HX9 HL9 Hw9 HS9
      have HBw := Lib.hid (show w.heap.size ≤ Bc from by
        have h1 := (HXl.out bx (.inl HX10.out.at_.choose_spec.2.led.choose_spec.choose_spec.1.fb)).1
        have h2 := (HXl.out bx (.inl HX10.out.at_.choose_spec.2.led.choose_spec.choose_spec.1.fb)).2
        omega)
      go_wp2
      go_loopw [143] (fun i wr => ∃ (j : Nat) (Gc : Nat → Prop), j ≤ n' ∧ i = .int .i64 (j : Int) ∧ Held wr W _ T0 T1 bx rx ∧ LedAt wr Bc Gc bc mc (rx.resAll (l'.take j)).secret (rx.resAll (l'.take j)).h pc (rx.resAll (l'.take j)).led ∧ Below w.heap.size w wr) (fun i _ => n' - (RowKit.intOf i).toNat)
      case atStart => exact ⟨0, Fc, Nat.zero_le _, rfl, HX10.out, HL10.out, Hw10.out⟩
      case round =>
        obtain ⟨j, Gc, hj, rfl, hx, hl2, hw⟩ := hrel
        have HXr := Lib.hid hx; have HLr := Lib.hid hl2; have Hwr := Lib.hid hw
        clear hx hl2 hw HX10 HL10 Hw10 HS10
        have hrok := resAll_ok (r := rx) (l := l'.take j) Hok5.out (fun d hd => Hok'.out d (List.mem_of_mem_take hd))
        by_cases hlt : j < n'
        · have hd3 : decide ((j : Int) < (n' : Int)) = true := decide_eq_true (by omega)
          have hji : (j : Int) < (n' : Int) := by omega
          obtain ⟨bb, o, rfl, hbB, y0, y1, y2, y3, y4, y5, y6, y7⟩ := (Hr'.out.below Hwr.out (Nat.le_refl _)).di8 hlt
          have hjl : j < l'.length := by have := Hl'.out; omega
          have Hsn := Lib.hid (resAll_snoc rx l' hjl)
          have Hq := Lib.hid (getD_ok Hok'.out j)
          generalize l'.getD j D8.zero = m at *
          generalize rx.resAll (l'.take j) = rj at *
          have Hj := Lib.hid hlt; have Hrok := Lib.hid hrok
          have hbl : bb < wr.heap.size := by have := Hwr.out.size; omega
          have hb2 := h_one wr (.cells #[.int .u8 (m.x0 : Int), .int .u8 (m.x1 : Int), .int .u8 (m.x2 : Int), .int .u8 (m.x3 : Int), .int .u8 (m.x4 : Int), .int .u8 (m.x5 : Int), .int .u8 (m.x6 : Int), .int .u8 (m.x7 : Int)] 22)
          have HM2 : Hid ((wr.alloc (.cells #[.int .u8 (m.x0 : Int), .int .u8 (m.x1 : Int), .int .u8 (m.x2 : Int), .int .u8 (m.x3 : Int), .int .u8 (m.x4 : Int), .int .u8 (m.x5 : Int), .int .u8 (m.x6 : Int), .int .u8 (m.x7 : Int)] 22)).heap[wr.heap.size]? = some (.cells #[.int .u8 (m.x0 : Int), .int .u8 (m.x1 : Int), .int .u8 (m.x2 : Int), .int .u8 (m.x3 : Int), .int .u8 (m.x4 : Int), .int .u8 (m.x5 : Int), .int .u8 (m.x6 : Int), .int .u8 (m.x7 : Int)] 22 (0, 0))) := heap_alloc_new wr _
          have HXr2 := Lib.hid (HXr.out.below hb2); have HLr2 := Lib.hid (HLr.out.below hb2); have Hwr2 := Lib.hid (Hwr.out.trans (hb2.mono Hwr.out.size))
          go_upto_region 26 with fail
          generalize wr.alloc (.cells #[.int .u8 (m.x0 : Int), .int .u8 (m.x1 : Int), .int .u8 (m.x2 : Int), .int .u8 (m.x3 : Int), .int .u8 (m.x4 : Int), .int .u8 (m.x5 : Int), .int .u8 (m.x6 : Int), .int .u8 (m.x7 : Int)] 22) = u2 at *
          clear y0 y1 y2 y3 y4 y5 y6 y7 HXr HLr Hwr hb2
          have hlm := block_lt HM2.out
          obtain ⟨zf, y0, y1, y2, y3, y4, y5, y6, y7⟩ := free8 HM2.out
          clear zf
          have hBc : Bc ≤ u2.heap.size := by have := (HLr2.out.fl bc HLr2.out.fb); omega
          go_wp2_with fail
          refine (reserve_led (r := rj) m HLr2.out Hrok.out.2.1 Hrok.out.2.2.2.2 Hq.out hBc).mono ?_
          rintro e u3 ⟨rfl, hc3, hl3⟩
          have HX3r := Lib.hid (HXr2.out.other hc3 (fun z hz hf => by have := (HLr2.out.fl z hz).1; have := (HXl.out z hf).2; omega))
          have Hw3r := Lib.hid (Hwr2.out.trans (hc3.below (fun z hz => Nat.le_trans HBw.out (HLr2.out.fl z hz).1) Hwr2.out.size))
          rw [← (RingM.reserve_secret rj m).1, ← (RingM.reserve_secret rj m).2, ← Hsn.out] at hl3
          have HL3r := Lib.hid hl3
          clear hc3 hl3 y0 y1 y2 y3 y4 y5 y6 y7 HXr2 HLr2 Hwr2 HM2
          go_wp2
          go_roundw
          case rel => exact ⟨j + 1, _, Hj.out, by go_num, HX3r.out, HL3r.out, Hw3r.out⟩
          case measure => have := Hj.out; simp [RowKit.intOf]; omega
        · obtain rfl : j = n' := by omega
          have hd3 : decide ((j : Int) < (j : Int)) = false := by simp
          have htk : l'.take j = l' := List.take_of_length_le (by rw [Hl'.out]; exact Nat.le_refl _)
          rw [htk] at HLr hrok
          have Hlat := Lib.hid (same_later rx l')
          generalize rx.resAll l' = rn at *
          have Hrok := Lib.hid hrok
          clear hlt hj htk hrok
          go_wp2_with fail
          refine (used_led HXr.out.at_.choose_spec.2.led.choose_spec.choose_spec.1).mono ?_
          rintro e u2 ⟨rfl, hb2⟩
          have HX2 := Lib.hid (HXr.out.below hb2); have HL2 := Lib.hid (HLr.out.below hb2); have Hw2 := Lib.hid (Hwr.out.trans (hb2.mono Hwr.out.size))
          clear hb2 HXr HLr Hwr
          go_wp2_with fail
          refine (same_led (r := rn) (r' := rx) HL2.out HX2.out.at_.choose_spec.2.led.choose_spec.choose_spec.1 ⟨Hrok.out.2.1, Hrok.out.2.2.2.2⟩ Hkk.out).mono ?_
          rintro e u3 ⟨rfl, hb3⟩
          rw [Hlat.out]
          have HL3 := Lib.hid (HL2.out.below hb3); have Hw3 := Lib.hid (Hw2.out.trans (hb3.mono Hw2.out.size))
          clear hb3 HX2 HL2 Hw2
          generalize hnn : rn.led.length = nn at *
          have Hnn := Lib.hid hnn
          clear hnn
          have Hus := Lib.hid (used_led HL3.out)
          rw [Hnn.out] at Hus
          go_wp2_with fail
          refine Hus.out.mono ?_
          rintro e u4 ⟨rfl, hb4⟩
          have Hw4 := Lib.hid (Hw3.out.trans (hb4.mono Hw3.out.size))
          clear hb4 HL3 Hw3
          go_wp2
          go_ret
          exact ⟨ret_bool (by simp), Hw4.out⟩
end Go.Proofs.Ytmpklplojfjfbaa
