/- The hash of one and of two digests, of digests in order, and One done often: the walks of One, Two, Many, Chain. Condition: bounds on how many. -/
import Derived.Test.YthjpaclcoipocaaGreatJoinH
import Derived.Test.YthjpaclcoipocaaGreatKeD
namespace Go.Proofs.YthjpaclcoipocaaGreat
open Go.RowKit Go.Lib


set_option maxRecDepth 100000 in
set_option maxHeartbeats 2000000 in
theorem one_any (d : D8) (w : World) (hd : d.ok) :
    Calls Tryz.prog 51 #[.agg #[.int .u8 (d.x0 : Int), .int .u8 (d.x1 : Int), .int .u8 (d.x2 : Int), .int .u8 (d.x3 : Int), .int .u8 (d.x4 : Int), .int .u8 (d.x5 : Int), .int .u8 (d.x6 : Int), .int .u8 (d.x7 : Int)]] w fun e w' => e = .returned (.agg #[.int .u8 ((hashOne d).x0 : Int), .int .u8 ((hashOne d).x1 : Int), .int .u8 ((hashOne d).x2 : Int), .int .u8 ((hashOne d).x3 : Int), .int .u8 ((hashOne d).x4 : Int), .int .u8 ((hashOne d).x5 : Int), .int .u8 ((hashOne d).x6 : Int), .int .u8 ((hashOne d).x7 : Int)]) ∧ Below w.heap.size w w' := by
  have Hok := Lib.hid hd
  clear hd
  have HX0 : Hid ((w.alloc (.cells #[.int .u8 (d.x0 : Int), .int .u8 (d.x1 : Int), .int .u8 (d.x2 : Int), .int .u8 (d.x3 : Int), .int .u8 (d.x4 : Int), .int .u8 (d.x5 : Int), .int .u8 (d.x6 : Int), .int .u8 (d.x7 : Int)] 30)).heap[w.heap.size]? = some (.cells #[.int .u8 (d.x0 : Int), .int .u8 (d.x1 : Int), .int .u8 (d.x2 : Int), .int .u8 (d.x3 : Int), .int .u8 (d.x4 : Int), .int .u8 (d.x5 : Int), .int .u8 (d.x6 : Int), .int .u8 (d.x7 : Int)] 30 (0, 0))) := heap_alloc_new w _
  have HX : Hid (((w.alloc (.cells #[.int .u8 (d.x0 : Int), .int .u8 (d.x1 : Int), .int .u8 (d.x2 : Int), .int .u8 (d.x3 : Int), .int .u8 (d.x4 : Int), .int .u8 (d.x5 : Int), .int .u8 (d.x6 : Int), .int .u8 (d.x7 : Int)] 30)).alloc (.cells #[.int .u8 0, .int .u8 0, .int .u8 0, .int .u8 0, .int .u8 0, .int .u8 0, .int .u8 0, .int .u8 0] 30)).heap[w.heap.size + 1]? = some (.cells #[.int .u8 0, .int .u8 0, .int .u8 0, .int .u8 0, .int .u8 0, .int .u8 0, .int .u8 0, .int .u8 0] 30 (0, 0))) := by
    have := heap_alloc_new (w.alloc (.cells #[.int .u8 (d.x0 : Int), .int .u8 (d.x1 : Int), .int .u8 (d.x2 : Int), .int .u8 (d.x3 : Int), .int .u8 (d.x4 : Int), .int .u8 (d.x5 : Int), .int .u8 (d.x6 : Int), .int .u8 (d.x7 : Int)] 30)) (.cells #[.int .u8 0, .int .u8 0, .int .u8 0, .int .u8 0, .int .u8 0, .int .u8 0, .int .u8 0, .int .u8 0] 30)
    show _ = _
    simpa using this
  have HD : Hid (((w.alloc (.cells #[.int .u8 (d.x0 : Int), .int .u8 (d.x1 : Int), .int .u8 (d.x2 : Int), .int .u8 (d.x3 : Int), .int .u8 (d.x4 : Int), .int .u8 (d.x5 : Int), .int .u8 (d.x6 : Int), .int .u8 (d.x7 : Int)] 30)).alloc (.cells #[.int .u8 0, .int .u8 0, .int .u8 0, .int .u8 0, .int .u8 0, .int .u8 0, .int .u8 0, .int .u8 0] 30)).heap[w.heap.size]? = some (.cells #[.int .u8 (d.x0 : Int), .int .u8 (d.x1 : Int), .int .u8 (d.x2 : Int), .int .u8 (d.x3 : Int), .int .u8 (d.x4 : Int), .int .u8 (d.x5 : Int), .int .u8 (d.x6 : Int), .int .u8 (d.x7 : Int)] 30 (0, 0))) := block_alloc HX0.out _
  have Hb0 := Lib.hid (h_two w (.cells #[.int .u8 (d.x0 : Int), .int .u8 (d.x1 : Int), .int .u8 (d.x2 : Int), .int .u8 (d.x3 : Int), .int .u8 (d.x4 : Int), .int .u8 (d.x5 : Int), .int .u8 (d.x6 : Int), .int .u8 (d.x7 : Int)] 30) (.cells #[.int .u8 0, .int .u8 0, .int .u8 0, .int .u8 0, .int .u8 0, .int .u8 0, .int .u8 0, .int .u8 0] 30))
  have Hz0 : Hid (((w.alloc (.cells #[.int .u8 (d.x0 : Int), .int .u8 (d.x1 : Int), .int .u8 (d.x2 : Int), .int .u8 (d.x3 : Int), .int .u8 (d.x4 : Int), .int .u8 (d.x5 : Int), .int .u8 (d.x6 : Int), .int .u8 (d.x7 : Int)] 30)).alloc (.cells #[.int .u8 0, .int .u8 0, .int .u8 0, .int .u8 0, .int .u8 0, .int .u8 0, .int .u8 0, .int .u8 0] 30)).heap.size = w.heap.size + 2) := Lib.hid (by simp)
  go_enter Tryz.func51, Tryz.ntmps51
  go_wp2_with fail
  refine (begin_any 2 _).mono ?_
  rintro e w1 ⟨rfl, hb1⟩
  have Hbx1 := Lib.hid (block_below HX.out hb1 (by rw [Hz0.out]; omega))
  have Hd1 := Lib.hid (block_below HD.out hb1 (by rw [Hz0.out]; omega))
  have Hb1 := Lib.hid (Hb0.out.trans (hb1.mono Hb0.out.size))
  have hsz1 : w.heap.size + 2 ≤ w1.heap.size := by have := hb1.size; rw [Hz0.out] at this; exact this
  clear hb1
  go_upto_region 2 with fail
  generalize hs0 : Hs.begin 2 = s0 at *
  have h2 : StAt (w1.alloc (.cells #[.int .u64 s0.a, .int .u64 s0.b, .int .u64 s0.c, .int .u64 s0.d] 97)) w1.heap.size s0 := heap_alloc_new w1 _
  have hb2 : Below w.heap.size w (w1.alloc (.cells #[.int .u64 s0.a, .int .u64 s0.b, .int .u64 s0.c, .int .u64 s0.d] 97)) := Hb1.out.alloc (Hb1.out.size) _
  have hbx2 := block_alloc Hbx1.out (.cells #[.int .u64 s0.a, .int .u64 s0.b, .int .u64 s0.c, .int .u64 s0.d] 97)
  have hd2 := block_alloc Hd1.out (.cells #[.int .u64 s0.a, .int .u64 s0.b, .int .u64 s0.c, .int .u64 s0.d] 97)
  have hz2 : (w1.alloc (.cells #[.int .u64 s0.a, .int .u64 s0.b, .int .u64 s0.c, .int .u64 s0.d] 97)).heap.size = w1.heap.size + 1 := by simp
  generalize w1.alloc (.cells #[.int .u64 s0.a, .int .u64 s0.b, .int .u64 s0.c, .int .u64 s0.d] 97) = w2 at *
  have Hs0 := Lib.hid hs0; have H2 := Lib.hid h2; have Hb2 := Lib.hid hb2; have Hbx2 := Lib.hid hbx2; have Hz2 := Lib.hid hz2; have Hd2 := Lib.hid hd2
  have hlt2 : w1.heap.size < w2.heap.size := by omega
  generalize w1.heap.size = g at *
  obtain ⟨zf, r0, r1, r2, r3, r4, r5, r6, r7⟩ := free8 hd2
  clear hs0 h2 hb2 hbx2 hz2 hd2 Hbx1 Hb1 Hd1 zf HX HX0 HD Hb0 Hz0
  go_wp2_with fail
  refine (hnum_any d _ Hok.out).mono ?_
  rintro e w3 ⟨rfl, hb⟩
  have H3 : Hid (StAt w3 g s0) := Lib.hid (block_below H2.out hb hlt2)
  have Hb3 := Lib.hid (Hb2.out.trans (hb.mono Hb2.out.size)); have Hbx3 := Lib.hid (block_below Hbx2.out hb (by omega)); have Hd3 := Lib.hid (block_below Hd2.out hb (by omega))
  have hlt3 : g < w3.heap.size := Nat.lt_of_lt_of_le hlt2 hb.size
  clear hb r0 r1 r2 r3 r4 r5 r6 r7 Hb2 Hbx2 H2 Hd2
  go_wp2_with fail
  refine (take_any g s0 _ w3 H3.out).mono ?_
  rintro e w4 ⟨rfl, h4, hg4⟩
  have H4 := Lib.hid h4
  have hb4 := st_grown (B := w.heap.size + 2) hg4 (by omega) hsz1
  have Hb4 := Lib.hid (Hb3.out.trans (hb4.mono (by omega))); have Hbx4 := Lib.hid (block_below Hbx3.out hb4 (by omega)); have Hd4 := Lib.hid (block_below Hd3.out hb4 (by omega))
  have hlt4 : g < w4.heap.size := Nat.lt_of_lt_of_le hlt3 hg4.size
  clear h4 hg4 hb4 H3 Hb3 Hbx3 Hd3
  go_wp2_with fail
  refine (gives_any g _ _ H4.out).mono ?_
  rintro e w9 ⟨rfl, hb9⟩
  have hbx9 := block_below Hbx4.out hb9 (block_lt Hbx4.out)
  obtain ⟨zf, r0, r1, r2, r3, r4, r5, r6, r7⟩ := free8 hbx9
  have Hbx := Lib.hid hbx9
  have Hbw := Lib.hid (Hb4.out.trans (hb9.mono Hb4.out.size))
  clear hb9 hbx9
  have Hout : Hid ((s0.take (d.num : Int)).out = hashOne d) := Lib.hid (by rw [← Hs0.out]; rfl)
  generalize (s0.take (d.num : Int)).out = dd at *
  go_wp2
  clear zf r0 r1 r2 r3 r4 r5 r6 r7
  have h8 := set8 Hbx.out (.int .u8 (dd.x0 : Int)) (.int .u8 (dd.x1 : Int)) (.int .u8 (dd.x2 : Int)) (.int .u8 (dd.x3 : Int)) (.int .u8 (dd.x4 : Int)) (.int .u8 (dd.x5 : Int)) (.int .u8 (dd.x6 : Int)) (.int .u8 (dd.x7 : Int))
  have hg8 := grown_set8 w9 (w.heap.size + 1) (.int .u8 (dd.x0 : Int)) (.int .u8 (dd.x1 : Int)) (.int .u8 (dd.x2 : Int)) (.int .u8 (dd.x3 : Int)) (.int .u8 (dd.x4 : Int)) (.int .u8 (dd.x5 : Int)) (.int .u8 (dd.x6 : Int)) (.int .u8 (dd.x7 : Int))
  generalize ((((((((w9.setCell ⟨w.heap.size + 1, 0, none⟩ (.int .u8 (dd.x0 : Int))).setCell ⟨w.heap.size + 1, 1, none⟩ (.int .u8 (dd.x1 : Int))).setCell ⟨w.heap.size + 1, 2, none⟩ (.int .u8 (dd.x2 : Int))).setCell ⟨w.heap.size + 1, 3, none⟩ (.int .u8 (dd.x3 : Int))).setCell ⟨w.heap.size + 1, 4, none⟩ (.int .u8 (dd.x4 : Int))).setCell ⟨w.heap.size + 1, 5, none⟩ (.int .u8 (dd.x5 : Int))).setCell ⟨w.heap.size + 1, 6, none⟩ (.int .u8 (dd.x6 : Int))).setCell ⟨w.heap.size + 1, 7, none⟩ (.int .u8 (dd.x7 : Int))) = w10 at *
  obtain ⟨zf, r0, r1, r2, r3, r4, r5, r6, r7⟩ := free8 h8
  have Hb2 := Lib.hid (Hbw.out.grown hg8 Hbw.out.size (fun k hk => by injection hk with hk; omega))
  clear h8 hg8
  refine bodyPost_ret (v := .agg #[.int .u8 (dd.x0 : Int), .int .u8 (dd.x1 : Int), .int .u8 (dd.x2 : Int), .int .u8 (dd.x3 : Int), .int .u8 (dd.x4 : Int), .int .u8 (dd.x5 : Int), .int .u8 (dd.x6 : Int), .int .u8 (dd.x7 : Int)]) (by simp [results, Tryz.results51, go_sem, r0, r1, r2, r3, r4, r5, r6, r7]) rfl ⟨by rw [Hout.out], Hb2.out⟩
set_option maxRecDepth 100000 in
set_option maxHeartbeats 2000000 in
theorem two_any (a b : D8) (w : World) (ha : a.ok) (hb : b.ok) :
    Calls Tryz.prog 34 #[.agg #[.int .u8 (a.x0 : Int), .int .u8 (a.x1 : Int), .int .u8 (a.x2 : Int), .int .u8 (a.x3 : Int), .int .u8 (a.x4 : Int), .int .u8 (a.x5 : Int), .int .u8 (a.x6 : Int), .int .u8 (a.x7 : Int)], .agg #[.int .u8 (b.x0 : Int), .int .u8 (b.x1 : Int), .int .u8 (b.x2 : Int), .int .u8 (b.x3 : Int), .int .u8 (b.x4 : Int), .int .u8 (b.x5 : Int), .int .u8 (b.x6 : Int), .int .u8 (b.x7 : Int)]] w fun e w' => e = .returned (.agg #[.int .u8 ((hashTwo a b).x0 : Int), .int .u8 ((hashTwo a b).x1 : Int), .int .u8 ((hashTwo a b).x2 : Int), .int .u8 ((hashTwo a b).x3 : Int), .int .u8 ((hashTwo a b).x4 : Int), .int .u8 ((hashTwo a b).x5 : Int), .int .u8 ((hashTwo a b).x6 : Int), .int .u8 ((hashTwo a b).x7 : Int)]) ∧ Below w.heap.size w w' := by
  have Hoa := Lib.hid ha; have Hob := Lib.hid hb
  clear ha hb
  obtain ⟨ha0, hb0, hx0, hw0, hz0⟩ := alloc3 w (.cells #[.int .u8 (a.x0 : Int), .int .u8 (a.x1 : Int), .int .u8 (a.x2 : Int), .int .u8 (a.x3 : Int), .int .u8 (a.x4 : Int), .int .u8 (a.x5 : Int), .int .u8 (a.x6 : Int), .int .u8 (a.x7 : Int)] 30) (.cells #[.int .u8 (b.x0 : Int), .int .u8 (b.x1 : Int), .int .u8 (b.x2 : Int), .int .u8 (b.x3 : Int), .int .u8 (b.x4 : Int), .int .u8 (b.x5 : Int), .int .u8 (b.x6 : Int), .int .u8 (b.x7 : Int)] 30) (.cells #[.int .u8 0, .int .u8 0, .int .u8 0, .int .u8 0, .int .u8 0, .int .u8 0, .int .u8 0, .int .u8 0] 30)
  have HA0 := Lib.hid ha0; have HB0 := Lib.hid hb0; have HX0 := Lib.hid hx0; have Hw0 := Lib.hid hw0; have Hz0 := Lib.hid hz0
  clear ha0 hb0 hx0 hw0 hz0
  go_enter Tryz.func34, Tryz.ntmps34
  go_wp2_with fail
  refine (begin_any 3 _).mono ?_
  rintro e w1 ⟨rfl, hb1⟩
  have HA1 := Lib.hid (block_below HA0.out hb1 (by rw [Hz0.out]; omega)); have HB1 := Lib.hid (block_below HB0.out hb1 (by rw [Hz0.out]; omega)); have HX1 := Lib.hid (block_below HX0.out hb1 (by rw [Hz0.out]; omega))
  have Hw1 := Lib.hid (Hw0.out.trans (hb1.mono Hw0.out.size))
  have hsz1 : w.heap.size + 3 ≤ w1.heap.size := by have := hb1.size; rw [Hz0.out] at this; exact this
  clear hb1 HA0 HB0 HX0 Hw0 Hz0
  go_upto_region 2 with fail
  generalize hs0 : Hs.begin 3 = s0 at *
  have h2 : StAt (w1.alloc (.cells #[.int .u64 s0.a, .int .u64 s0.b, .int .u64 s0.c, .int .u64 s0.d] 97)) w1.heap.size s0 := heap_alloc_new w1 _
  have hw2 : Below w.heap.size w (w1.alloc (.cells #[.int .u64 s0.a, .int .u64 s0.b, .int .u64 s0.c, .int .u64 s0.d] 97)) := Hw1.out.alloc (Hw1.out.size) _
  have ha2 := block_alloc HA1.out (.cells #[.int .u64 s0.a, .int .u64 s0.b, .int .u64 s0.c, .int .u64 s0.d] 97); have hb2 := block_alloc HB1.out (.cells #[.int .u64 s0.a, .int .u64 s0.b, .int .u64 s0.c, .int .u64 s0.d] 97); have hx2 := block_alloc HX1.out (.cells #[.int .u64 s0.a, .int .u64 s0.b, .int .u64 s0.c, .int .u64 s0.d] 97)
  have hz2 : (w1.alloc (.cells #[.int .u64 s0.a, .int .u64 s0.b, .int .u64 s0.c, .int .u64 s0.d] 97)).heap.size = w1.heap.size + 1 := by simp
  generalize w1.alloc (.cells #[.int .u64 s0.a, .int .u64 s0.b, .int .u64 s0.c, .int .u64 s0.d] 97) = w2 at *
  have Hs0 := Lib.hid hs0; have H2 := Lib.hid h2; have Hw2 := Lib.hid hw2; have HB2 := Lib.hid hb2; have HX2 := Lib.hid hx2; have HA2 := Lib.hid ha2
  have hlt2 : w1.heap.size < w2.heap.size := by omega
  generalize w1.heap.size = g at *
  obtain ⟨zf, r0, r1, r2, r3, r4, r5, r6, r7⟩ := free8 ha2
  clear hs0 h2 hw2 hb2 hx2 ha2 hz2 HA1 HB1 HX1 Hw1 zf
  go_wp2_with fail
  refine (hnum_any a _ Hoa.out).mono ?_
  rintro e w3 ⟨rfl, hb⟩
  have H3 : Hid (StAt w3 g s0) := Lib.hid (block_below H2.out hb hlt2)
  have Hw3 := Lib.hid (Hw2.out.trans (hb.mono Hw2.out.size)); have HX3 := Lib.hid (block_below HX2.out hb (by omega)); have HB3 := Lib.hid (block_below HB2.out hb (by omega))
  have hlt3 : g < w3.heap.size := Nat.lt_of_lt_of_le hlt2 hb.size
  clear hb r0 r1 r2 r3 r4 r5 r6 r7 Hw2 H2 HX2 HB2 HA2
  go_wp2_with fail
  refine (take_any g s0 _ w3 H3.out).mono ?_
  rintro e w4 ⟨rfl, h4, hg4⟩
  have H4 := Lib.hid h4
  have hb4 := st_grown (B := w.heap.size + 3) hg4 (by omega) hsz1
  have Hw4 := Lib.hid (Hw3.out.trans (hb4.mono (by omega))); have HX4 := Lib.hid (block_below HX3.out hb4 (by omega)); have HB4 := Lib.hid (block_below HB3.out hb4 (by omega))
  have hlt4 : g < w4.heap.size := Nat.lt_of_lt_of_le hlt3 hg4.size
  clear h4 hg4 hb4 H3 Hw3 HX3 HB3
  obtain ⟨zf, r0, r1, r2, r3, r4, r5, r6, r7⟩ := free8 HB4.out
  clear zf
  go_wp2_with fail
  refine (hnum_any b _ Hob.out).mono ?_
  rintro e w5 ⟨rfl, hb⟩
  have H5 : Hid (StAt w5 g (s0.take (a.num : Int))) := Lib.hid (block_below H4.out hb hlt4)
  have Hw5 := Lib.hid (Hw4.out.trans (hb.mono Hw4.out.size)); have HX5 := Lib.hid (block_below HX4.out hb (by omega))
  have hlt5 : g < w5.heap.size := Nat.lt_of_lt_of_le hlt4 hb.size
  clear hb r0 r1 r2 r3 r4 r5 r6 r7 Hw4 H4 HX4 HB4
  go_wp2_with fail
  refine (take_any g _ _ w5 H5.out).mono ?_
  rintro e w6 ⟨rfl, h6, hg6⟩
  have H6 := Lib.hid h6
  have hb6 := st_grown (B := w.heap.size + 3) hg6 (by omega) hsz1
  have Hw6 := Lib.hid (Hw5.out.trans (hb6.mono (by omega))); have HX6 := Lib.hid (block_below HX5.out hb6 (by omega))
  clear h6 hg6 hb6 H5 Hw5 HX5
  go_wp2_with fail
  refine (gives_any g _ _ H6.out).mono ?_
  rintro e w9 ⟨rfl, hb9⟩
  have hbx9 := block_below HX6.out hb9 (block_lt HX6.out)
  obtain ⟨zf, r0, r1, r2, r3, r4, r5, r6, r7⟩ := free8 hbx9
  have Hbx := Lib.hid hbx9
  have Hbw := Lib.hid (Hw6.out.trans (hb9.mono Hw6.out.size))
  clear hb9 hbx9
  have Hout : Hid (((s0.take (a.num : Int)).take (b.num : Int)).out = hashTwo a b) := Lib.hid (by rw [← Hs0.out]; rfl)
  generalize ((s0.take (a.num : Int)).take (b.num : Int)).out = dd at *
  go_wp2
  clear zf r0 r1 r2 r3 r4 r5 r6 r7
  have h8 := set8 Hbx.out (.int .u8 (dd.x0 : Int)) (.int .u8 (dd.x1 : Int)) (.int .u8 (dd.x2 : Int)) (.int .u8 (dd.x3 : Int)) (.int .u8 (dd.x4 : Int)) (.int .u8 (dd.x5 : Int)) (.int .u8 (dd.x6 : Int)) (.int .u8 (dd.x7 : Int))
  have hg8 := grown_set8 w9 (w.heap.size + 2) (.int .u8 (dd.x0 : Int)) (.int .u8 (dd.x1 : Int)) (.int .u8 (dd.x2 : Int)) (.int .u8 (dd.x3 : Int)) (.int .u8 (dd.x4 : Int)) (.int .u8 (dd.x5 : Int)) (.int .u8 (dd.x6 : Int)) (.int .u8 (dd.x7 : Int))
  generalize ((((((((w9.setCell ⟨w.heap.size + 2, 0, none⟩ (.int .u8 (dd.x0 : Int))).setCell ⟨w.heap.size + 2, 1, none⟩ (.int .u8 (dd.x1 : Int))).setCell ⟨w.heap.size + 2, 2, none⟩ (.int .u8 (dd.x2 : Int))).setCell ⟨w.heap.size + 2, 3, none⟩ (.int .u8 (dd.x3 : Int))).setCell ⟨w.heap.size + 2, 4, none⟩ (.int .u8 (dd.x4 : Int))).setCell ⟨w.heap.size + 2, 5, none⟩ (.int .u8 (dd.x5 : Int))).setCell ⟨w.heap.size + 2, 6, none⟩ (.int .u8 (dd.x6 : Int))).setCell ⟨w.heap.size + 2, 7, none⟩ (.int .u8 (dd.x7 : Int))) = w10 at *
  obtain ⟨zf, r0, r1, r2, r3, r4, r5, r6, r7⟩ := free8 h8
  have Hb2 := Lib.hid (Hbw.out.grown hg8 Hbw.out.size (fun k hk => by injection hk with hk; omega))
  clear h8 hg8
  refine bodyPost_ret (v := .agg #[.int .u8 (dd.x0 : Int), .int .u8 (dd.x1 : Int), .int .u8 (dd.x2 : Int), .int .u8 (dd.x3 : Int), .int .u8 (dd.x4 : Int), .int .u8 (dd.x5 : Int), .int .u8 (dd.x6 : Int), .int .u8 (dd.x7 : Int)]) (by simp [results, Tryz.results34, go_sem, r0, r1, r2, r3, r4, r5, r6, r7]) rfl ⟨by rw [Hout.out], Hb2.out⟩
set_option maxRecDepth 100000 in
set_option maxHeartbeats 2000000 in
theorem chain_any (d : D8) (n : Nat) (w : World) (hd : d.ok) (hn : n ≤ 1048576) :
    Calls Tryz.prog 32 #[.agg #[.int .u8 (d.x0 : Int), .int .u8 (d.x1 : Int), .int .u8 (d.x2 : Int), .int .u8 (d.x3 : Int), .int .u8 (d.x4 : Int), .int .u8 (d.x5 : Int), .int .u8 (d.x6 : Int), .int .u8 (d.x7 : Int)], .int .i64 (n : Int)] w fun e w' => e = .returned (.agg #[.int .u8 ((chainD d n).x0 : Int), .int .u8 ((chainD d n).x1 : Int), .int .u8 ((chainD d n).x2 : Int), .int .u8 ((chainD d n).x3 : Int), .int .u8 ((chainD d n).x4 : Int), .int .u8 ((chainD d n).x5 : Int), .int .u8 ((chainD d n).x6 : Int), .int .u8 ((chainD d n).x7 : Int)]) ∧ Below w.heap.size w w' := by
  obtain ⟨hd0, hx0, hw0, hz0⟩ := alloc2 w (.cells #[.int .u8 (d.x0 : Int), .int .u8 (d.x1 : Int), .int .u8 (d.x2 : Int), .int .u8 (d.x3 : Int), .int .u8 (d.x4 : Int), .int .u8 (d.x5 : Int), .int .u8 (d.x6 : Int), .int .u8 (d.x7 : Int)] 30) (.cells #[.int .u8 0, .int .u8 0, .int .u8 0, .int .u8 0, .int .u8 0, .int .u8 0, .int .u8 0, .int .u8 0] 30)
  have Hd := Lib.hid hd
  by_cases h0 : n = 0
  · subst h0
    have e1 : decide (((0 : Nat) : Int) < 1) = true := by decide
    go_enter Tryz.func32, Tryz.ntmps32
    go_upto_region 1 with fail
    generalize (w.alloc (.cells #[.int .u8 (d.x0 : Int), .int .u8 (d.x1 : Int), .int .u8 (d.x2 : Int), .int .u8 (d.x3 : Int), .int .u8 (d.x4 : Int), .int .u8 (d.x5 : Int), .int .u8 (d.x6 : Int), .int .u8 (d.x7 : Int)] 30)).alloc (.cells #[.int .u8 0, .int .u8 0, .int .u8 0, .int .u8 0, .int .u8 0, .int .u8 0, .int .u8 0, .int .u8 0] 30) = w1 at *
    obtain ⟨zf, q0, q1, q2, q3, q4, q5, q6, q7⟩ := free8 hd0
    obtain ⟨zf, r0, r1, r2, r3, r4, r5, r6, r7⟩ := free8 hx0
    have hl0 := block_lt hd0
    have Hbx := Lib.hid hx0; have Hbw := Lib.hid hw0
    clear hd0 hx0 hw0 hz0 hd hn
    go_wp2
    clear zf r0 r1 r2 r3 r4 r5 r6 r7
    have h8 := set8 Hbx.out (.int .u8 (d.x0 : Int)) (.int .u8 (d.x1 : Int)) (.int .u8 (d.x2 : Int)) (.int .u8 (d.x3 : Int)) (.int .u8 (d.x4 : Int)) (.int .u8 (d.x5 : Int)) (.int .u8 (d.x6 : Int)) (.int .u8 (d.x7 : Int))
    have hg8 := grown_set8 w1 (w.heap.size + 1) (.int .u8 (d.x0 : Int)) (.int .u8 (d.x1 : Int)) (.int .u8 (d.x2 : Int)) (.int .u8 (d.x3 : Int)) (.int .u8 (d.x4 : Int)) (.int .u8 (d.x5 : Int)) (.int .u8 (d.x6 : Int)) (.int .u8 (d.x7 : Int))
    generalize ((((((((w1.setCell ⟨w.heap.size + 1, 0, none⟩ (.int .u8 (d.x0 : Int))).setCell ⟨w.heap.size + 1, 1, none⟩ (.int .u8 (d.x1 : Int))).setCell ⟨w.heap.size + 1, 2, none⟩ (.int .u8 (d.x2 : Int))).setCell ⟨w.heap.size + 1, 3, none⟩ (.int .u8 (d.x3 : Int))).setCell ⟨w.heap.size + 1, 4, none⟩ (.int .u8 (d.x4 : Int))).setCell ⟨w.heap.size + 1, 5, none⟩ (.int .u8 (d.x5 : Int))).setCell ⟨w.heap.size + 1, 6, none⟩ (.int .u8 (d.x6 : Int))).setCell ⟨w.heap.size + 1, 7, none⟩ (.int .u8 (d.x7 : Int))) = w10 at *
    obtain ⟨zf, r0, r1, r2, r3, r4, r5, r6, r7⟩ := free8 h8
    have Hb2 := Lib.hid (Hbw.out.grown hg8 Hbw.out.size (fun k hk => by injection hk with hk; omega))
    clear h8 hg8
    refine bodyPost_ret (v := .agg #[.int .u8 (d.x0 : Int), .int .u8 (d.x1 : Int), .int .u8 (d.x2 : Int), .int .u8 (d.x3 : Int), .int .u8 (d.x4 : Int), .int .u8 (d.x5 : Int), .int .u8 (d.x6 : Int), .int .u8 (d.x7 : Int)]) (by simp [results, Tryz.results32, go_sem, r0, r1, r2, r3, r4, r5, r6, r7]) rfl ⟨rfl, Hb2.out⟩
  · have e1 : decide ((n : Int) < 1) = false := decide_eq_false (by omega)
    have e2 : decide ((1048576 : Int) < (n : Int)) = false := decide_eq_false (by omega)
    have H0 := Lib.hid hd0; have HX0 := Lib.hid hx0; have Hw0 := Lib.hid hw0; have Hz0 := Lib.hid hz0
    clear hd0 hx0 hw0 hz0 hd h0
    go_enter Tryz.func32, Tryz.ntmps32
    go_wp2
    go_loopw [13] (fun i wr => ∃ k : Nat, k ≤ n ∧ i = .int .i64 (k : Int) ∧ wr.heap[w.heap.size]? = some (.cells #[.int .u8 ((chainD d k).x0 : Int), .int .u8 ((chainD d k).x1 : Int), .int .u8 ((chainD d k).x2 : Int), .int .u8 ((chainD d k).x3 : Int), .int .u8 ((chainD d k).x4 : Int), .int .u8 ((chainD d k).x5 : Int), .int .u8 ((chainD d k).x6 : Int), .int .u8 ((chainD d k).x7 : Int)] 30 (0, 0)) ∧ wr.heap[w.heap.size + 1]? = some (.cells #[.int .u8 0, .int .u8 0, .int .u8 0, .int .u8 0, .int .u8 0, .int .u8 0, .int .u8 0, .int .u8 0] 30 (0, 0)) ∧ Below w.heap.size w wr) (fun i _ => n - (intOf i).toNat)
    case atStart => exact ⟨0, by omega, rfl, H0.out, HX0.out, Hw0.out⟩
    case round =>
      obtain ⟨k, hk, rfl, hT, hX, hb⟩ := hrel
      have HT := Lib.hid hT; have HX := Lib.hid hX; have Hb := Lib.hid hb
      have hlX := block_lt hX
      obtain ⟨zf, q0, q1, q2, q3, q4, q5, q6, q7⟩ := free8 hT
      clear hT hX hb
      by_cases hlt : k < n
      · have hd1 : decide ((k : Int) < (n : Int)) = true := decide_eq_true (by omega)
        have Hr : Hid (chainD d (k + 1) = hashOne (chainD d k)) := Lib.hid rfl
        have Hq := Lib.hid (chainD_ok Hd.out k)
        have Hk := Lib.hid hlt
        generalize chainD d k = q at *
        clear zf
        go_wp2_with fail
        refine (one_any q wr Hq.out).mono ?_
        rintro e w1 ⟨rfl, hb1⟩
        have HT1 := Lib.hid (block_below HT.out hb1 (by omega)); have HX2 := Lib.hid (block_below HX.out hb1 hlX); have Hb1 := Lib.hid (Hb.out.trans (hb1.mono Hb.out.size))
        clear hb1 HT HX Hb q0 q1 q2 q3 q4 q5 q6 q7
        rw [← Hr.out]
        generalize hp : chainD d (k + 1) = p at *
        have Hp := Lib.hid hp
        clear hp
        obtain ⟨zf, r0, r1, r2, r3, r4, r5, r6, r7⟩ := free8 HT1.out
        go_wp2
        have h8 := set8 HT1.out (.int .u8 (p.x0 : Int)) (.int .u8 (p.x1 : Int)) (.int .u8 (p.x2 : Int)) (.int .u8 (p.x3 : Int)) (.int .u8 (p.x4 : Int)) (.int .u8 (p.x5 : Int)) (.int .u8 (p.x6 : Int)) (.int .u8 (p.x7 : Int))
        have hg8 := grown_set8 w1 w.heap.size (.int .u8 (p.x0 : Int)) (.int .u8 (p.x1 : Int)) (.int .u8 (p.x2 : Int)) (.int .u8 (p.x3 : Int)) (.int .u8 (p.x4 : Int)) (.int .u8 (p.x5 : Int)) (.int .u8 (p.x6 : Int)) (.int .u8 (p.x7 : Int))
        have hb2 := Hb1.out.grown hg8 Hb1.out.size (fun k hk => by injection hk with hk; omega)
        have hx2 := (hg8.block (w.heap.size + 1) (block_lt HX2.out) (by intro e; injection e with e; omega)).trans HX2.out
        go_roundw
        case rel => exact ⟨k + 1, Hk.out, by go_num, by rw [Hp.out]; exact h8, hx2, hb2⟩
        case measure => have := Hk.out; simp [intOf]; omega
      · obtain rfl : k = n := by omega
        have hd1 : decide ((k : Int) < (k : Int)) = false := by simp
        have Hbx := Lib.hid HX.out; have Hbw := Lib.hid Hb.out
        clear hlt hk zf e1 e2
        obtain ⟨zf, r0, r1, r2, r3, r4, r5, r6, r7⟩ := free8 Hbx.out
        generalize hq : chainD d k = q at *
        have Hq := Lib.hid hq
        clear hq
        go_wp2
        clear zf r0 r1 r2 r3 r4 r5 r6 r7
        have h8 := set8 Hbx.out (.int .u8 (q.x0 : Int)) (.int .u8 (q.x1 : Int)) (.int .u8 (q.x2 : Int)) (.int .u8 (q.x3 : Int)) (.int .u8 (q.x4 : Int)) (.int .u8 (q.x5 : Int)) (.int .u8 (q.x6 : Int)) (.int .u8 (q.x7 : Int))
        have hg8 := grown_set8 wr (w.heap.size + 1) (.int .u8 (q.x0 : Int)) (.int .u8 (q.x1 : Int)) (.int .u8 (q.x2 : Int)) (.int .u8 (q.x3 : Int)) (.int .u8 (q.x4 : Int)) (.int .u8 (q.x5 : Int)) (.int .u8 (q.x6 : Int)) (.int .u8 (q.x7 : Int))
        generalize ((((((((wr.setCell ⟨w.heap.size + 1, 0, none⟩ (.int .u8 (q.x0 : Int))).setCell ⟨w.heap.size + 1, 1, none⟩ (.int .u8 (q.x1 : Int))).setCell ⟨w.heap.size + 1, 2, none⟩ (.int .u8 (q.x2 : Int))).setCell ⟨w.heap.size + 1, 3, none⟩ (.int .u8 (q.x3 : Int))).setCell ⟨w.heap.size + 1, 4, none⟩ (.int .u8 (q.x4 : Int))).setCell ⟨w.heap.size + 1, 5, none⟩ (.int .u8 (q.x5 : Int))).setCell ⟨w.heap.size + 1, 6, none⟩ (.int .u8 (q.x6 : Int))).setCell ⟨w.heap.size + 1, 7, none⟩ (.int .u8 (q.x7 : Int))) = w10 at *
        obtain ⟨zf, r0, r1, r2, r3, r4, r5, r6, r7⟩ := free8 h8
        have Hb2 := Lib.hid (Hbw.out.grown hg8 Hbw.out.size (fun k hk => by injection hk with hk; omega))
        clear h8 hg8
        refine bodyPost_ret (v := .agg #[.int .u8 (q.x0 : Int), .int .u8 (q.x1 : Int), .int .u8 (q.x2 : Int), .int .u8 (q.x3 : Int), .int .u8 (q.x4 : Int), .int .u8 (q.x5 : Int), .int .u8 (q.x6 : Int), .int .u8 (q.x7 : Int)]) (by simp [results, Tryz.results32, go_sem, r0, r1, r2, r3, r4, r5, r6, r7]) rfl ⟨by rw [Hq.out], Hb2.out⟩
set_option maxRecDepth 100000 in
set_option maxHeartbeats 2000000 in
theorem many_any (A : Option Addr) (n c : Nat) (l : List D8) (w : World) (h : Rd w w.heap.size 8 A n (flatD l)) (hok : ∀ d ∈ l, d.ok) (hn : n ≤ 1000000) :
    Calls Tryz.prog 50 #[.slice A n c] w fun e w' => e = .returned (.agg #[.int .u8 ((hashMany l).x0 : Int), .int .u8 ((hashMany l).x1 : Int), .int .u8 ((hashMany l).x2 : Int), .int .u8 ((hashMany l).x3 : Int), .int .u8 ((hashMany l).x4 : Int), .int .u8 ((hashMany l).x5 : Int), .int .u8 ((hashMany l).x6 : Int), .int .u8 ((hashMany l).x7 : Int)]) ∧ Below w.heap.size w w' := by
  have HX0 : Hid ((w.alloc (.cells #[.int .u8 0, .int .u8 0, .int .u8 0, .int .u8 0, .int .u8 0, .int .u8 0, .int .u8 0, .int .u8 0] 30)).heap[w.heap.size]? = some (.cells #[.int .u8 0, .int .u8 0, .int .u8 0, .int .u8 0, .int .u8 0, .int .u8 0, .int .u8 0, .int .u8 0] 30 (0, 0))) := heap_alloc_new w _
  have Hw0 := Lib.hid (h_one w (.cells #[.int .u8 0, .int .u8 0, .int .u8 0, .int .u8 0, .int .u8 0, .int .u8 0, .int .u8 0, .int .u8 0] 30))
  have Hz0 : Hid ((w.alloc (.cells #[.int .u8 0, .int .u8 0, .int .u8 0, .int .u8 0, .int .u8 0, .int .u8 0, .int .u8 0, .int .u8 0] 30)).heap.size = w.heap.size + 1) := Lib.hid (by simp)
  have Hl := Lib.hid h.dlenD
  have HR := Lib.hid h; have Hok := Lib.hid hok
  clear h hok
  go_enter Tryz.func50, Tryz.ntmps50
  go_wp2_with fail
  refine (begin_any 5 _).mono ?_
  rintro e w1 ⟨rfl, hb1⟩
  have HX1 := Lib.hid (block_below HX0.out hb1 (by rw [Hz0.out]; omega))
  have Hw1 := Lib.hid (Hw0.out.trans (hb1.mono Hw0.out.size))
  have hsz1 : w.heap.size + 1 ≤ w1.heap.size := by have := hb1.size; rw [Hz0.out] at this; exact this
  clear hb1 HX0 Hw0 Hz0
  go_upto_region 2 with fail
  generalize hs0 : Hs.begin 5 = s0 at *
  have h2 : StAt (w1.alloc (.cells #[.int .u64 s0.a, .int .u64 s0.b, .int .u64 s0.c, .int .u64 s0.d] 97)) w1.heap.size s0 := heap_alloc_new w1 _
  have hw2 : Below w.heap.size w (w1.alloc (.cells #[.int .u64 s0.a, .int .u64 s0.b, .int .u64 s0.c, .int .u64 s0.d] 97)) := Hw1.out.alloc (Hw1.out.size) _
  have hx2 := block_alloc HX1.out (.cells #[.int .u64 s0.a, .int .u64 s0.b, .int .u64 s0.c, .int .u64 s0.d] 97)
  generalize w1.alloc (.cells #[.int .u64 s0.a, .int .u64 s0.b, .int .u64 s0.c, .int .u64 s0.d] 97) = w2 at *
  have Hs0 := Lib.hid hs0; have H2 := Lib.hid h2; have Hw2 := Lib.hid hw2; have HX2 := Lib.hid hx2
  generalize w1.heap.size = g at *
  clear hs0 h2 hw2 hx2 HX1 Hw1
  go_wp2
  go_loopw [9] (fun i wr => ∃ k : Nat, k ≤ n ∧ i = .int .i64 (k : Int) ∧ StAt wr g (s0.takeAll (l.take k)) ∧ wr.heap[w.heap.size]? = some (.cells #[.int .u8 0, .int .u8 0, .int .u8 0, .int .u8 0, .int .u8 0, .int .u8 0, .int .u8 0, .int .u8 0] 30 (0, 0)) ∧ Below w.heap.size w wr) (fun i _ => n - (intOf i).toNat)
  case atStart => exact ⟨0, by omega, rfl, by simpa [Hs.takeAll] using H2.out, HX2.out, Hw2.out⟩
  case round =>
    obtain ⟨k, hk, rfl, hS, hX, hb⟩ := hrel
    have HS := Lib.hid hS; have HX := Lib.hid hX; have Hb := Lib.hid hb
    have hlS := block_lt hS
    clear hS hX hb
    by_cases hlt : k < n
    · have hd1 : decide ((k : Int) < (n : Int)) = true := decide_eq_true (by omega)
      have hki : (k : Int) < (n : Int) := by omega
      obtain ⟨b, o, rfl, hbB, x0, x1, x2, x3, x4, x5, x6, x7⟩ := (HR.out.below Hb.out (Nat.le_refl _)).di8 hlt
      have Hr := Lib.hid (takeAll_snoc s0 l (k := k) (by rw [Hl.out]; exact hlt))
      have Hq := Lib.hid (getD_ok Hok.out k)
      have Hk := Lib.hid hlt
      generalize l.getD k D8.zero = q at *
      generalize s0.takeAll (l.take k) = st at *
      go_upto_region 5 with fail
      have HD1 : Hid ((wr.alloc (.cells #[.int .u8 (q.x0 : Int), .int .u8 (q.x1 : Int), .int .u8 (q.x2 : Int), .int .u8 (q.x3 : Int), .int .u8 (q.x4 : Int), .int .u8 (q.x5 : Int), .int .u8 (q.x6 : Int), .int .u8 (q.x7 : Int)] 30)).heap[wr.heap.size]? = some (.cells #[.int .u8 (q.x0 : Int), .int .u8 (q.x1 : Int), .int .u8 (q.x2 : Int), .int .u8 (q.x3 : Int), .int .u8 (q.x4 : Int), .int .u8 (q.x5 : Int), .int .u8 (q.x6 : Int), .int .u8 (q.x7 : Int)] 30 (0, 0))) := heap_alloc_new wr _
      have HS1 : Hid (StAt (wr.alloc (.cells #[.int .u8 (q.x0 : Int), .int .u8 (q.x1 : Int), .int .u8 (q.x2 : Int), .int .u8 (q.x3 : Int), .int .u8 (q.x4 : Int), .int .u8 (q.x5 : Int), .int .u8 (q.x6 : Int), .int .u8 (q.x7 : Int)] 30)) g st) := block_alloc HS.out _
      have HX1 := Lib.hid (block_alloc HX.out (.cells #[.int .u8 (q.x0 : Int), .int .u8 (q.x1 : Int), .int .u8 (q.x2 : Int), .int .u8 (q.x3 : Int), .int .u8 (q.x4 : Int), .int .u8 (q.x5 : Int), .int .u8 (q.x6 : Int), .int .u8 (q.x7 : Int)] 30))
      have Hb1 := Lib.hid (Hb.out.alloc Hb.out.size (.cells #[.int .u8 (q.x0 : Int), .int .u8 (q.x1 : Int), .int .u8 (q.x2 : Int), .int .u8 (q.x3 : Int), .int .u8 (q.x4 : Int), .int .u8 (q.x5 : Int), .int .u8 (q.x6 : Int), .int .u8 (q.x7 : Int)] 30))
      generalize wr.alloc (.cells #[.int .u8 (q.x0 : Int), .int .u8 (q.x1 : Int), .int .u8 (q.x2 : Int), .int .u8 (q.x3 : Int), .int .u8 (q.x4 : Int), .int .u8 (q.x5 : Int), .int .u8 (q.x6 : Int), .int .u8 (q.x7 : Int)] 30) = v1 at *
      obtain ⟨b5, hb5⟩ : ∃ b5, b5 = wr.heap.size := ⟨_, rfl⟩
      rw [← hb5] at HD1
      rw [← hb5]
      have Hb5 := Lib.hid hb5
      clear hb5
      obtain ⟨zf, r0, r1, r2, r3, r4, r5, r6, r7⟩ := free8 HD1.out
      have hl5 := block_lt HD1.out
      clear zf x0 x1 x2 x3 x4 x5 x6 x7 HS HX Hb
      go_wp2_with fail
      refine (hnum_any q v1 Hq.out).mono ?_
      rintro e v2 ⟨rfl, hb⟩
      have HS2 : Hid (StAt v2 g st) := block_below HS1.out hb (block_lt HS1.out)
      have HX2' := Lib.hid (block_below HX1.out hb (block_lt HX1.out)); have Hb2 := Lib.hid (Hb1.out.trans (hb.mono Hb1.out.size))
      clear hb r0 r1 r2 r3 r4 r5 r6 r7 HS1 HX1 Hb1 HD1
      go_wp2_with fail
      refine (take_any g st _ v2 HS2.out).mono ?_
      rintro e v3 ⟨rfl, h3, hg3⟩
      have hb3 := Hb2.out.grown hg3 Hb2.out.size (fun k hk => by injection hk with hk; omega)
      have hx3 := (hg3.block w.heap.size (block_lt HX2'.out) (by intro e; injection e with e; omega)).trans HX2'.out
      have H3 := Lib.hid h3; have HX3 := Lib.hid hx3; have Hb3 := Lib.hid hb3
      clear h3 hg3 hb3 hx3 HS2 HX2' Hb2
      go_wp2
      go_roundw
      case rel => exact ⟨k + 1, Hk.out, by go_num, by rw [Hr.out]; exact H3.out, HX3.out, Hb3.out⟩
      case measure => have := Hk.out; simp [intOf]; omega
    · obtain rfl : k = n := by omega
      have hd1 : decide ((k : Int) < (k : Int)) = false := by simp
      have e1 : l.take k = l := by rw [← Hl.out]; exact List.take_length
      rw [e1] at HS
      have hw64 : IntKind.u64.wrap (k : Int) = (k : Int) := by rw [IntKind.wrap_u64]; omega
      have HL := Lib.hid e1
      clear hlt hk e1
      go_wp2_with fail
      refine (take_any g _ _ wr HS.out).mono ?_
      rintro e w6 ⟨rfl, h6, hg6⟩
      have H6 := Lib.hid h6
      have hb6 := st_grown (B := w.heap.size + 1) hg6 (by have := block_lt HX.out; omega) hsz1
      have Hw6 := Lib.hid (Hb.out.trans (hb6.mono (by omega))); have HX6 := Lib.hid (block_below HX.out hb6 (by omega))
      clear h6 hg6 hb6 HS Hb HX
      rw [← Hl.out] at H6
      go_wp2_with fail
      refine (gives_any g _ _ H6.out).mono ?_
      rintro e w9 ⟨rfl, hb9⟩
      have hbx9 := block_below HX6.out hb9 (block_lt HX6.out)
      obtain ⟨zf, r0, r1, r2, r3, r4, r5, r6, r7⟩ := free8 hbx9
      have Hbx := Lib.hid hbx9
      have Hbw := Lib.hid (Hw6.out.trans (hb9.mono Hw6.out.size))
      clear hb9 hbx9
      have Hout : Hid (((s0.takeAll l).take (l.length : Int)).out = hashMany l) := Lib.hid (by rw [← Hs0.out]; rfl)
      generalize ((s0.takeAll l).take (l.length : Int)).out = dd at *
      go_wp2
      clear zf r0 r1 r2 r3 r4 r5 r6 r7
      have h8 := set8 Hbx.out (.int .u8 (dd.x0 : Int)) (.int .u8 (dd.x1 : Int)) (.int .u8 (dd.x2 : Int)) (.int .u8 (dd.x3 : Int)) (.int .u8 (dd.x4 : Int)) (.int .u8 (dd.x5 : Int)) (.int .u8 (dd.x6 : Int)) (.int .u8 (dd.x7 : Int))
      have hg8 := grown_set8 w9 (w.heap.size) (.int .u8 (dd.x0 : Int)) (.int .u8 (dd.x1 : Int)) (.int .u8 (dd.x2 : Int)) (.int .u8 (dd.x3 : Int)) (.int .u8 (dd.x4 : Int)) (.int .u8 (dd.x5 : Int)) (.int .u8 (dd.x6 : Int)) (.int .u8 (dd.x7 : Int))
      generalize ((((((((w9.setCell ⟨w.heap.size, 0, none⟩ (.int .u8 (dd.x0 : Int))).setCell ⟨w.heap.size, 1, none⟩ (.int .u8 (dd.x1 : Int))).setCell ⟨w.heap.size, 2, none⟩ (.int .u8 (dd.x2 : Int))).setCell ⟨w.heap.size, 3, none⟩ (.int .u8 (dd.x3 : Int))).setCell ⟨w.heap.size, 4, none⟩ (.int .u8 (dd.x4 : Int))).setCell ⟨w.heap.size, 5, none⟩ (.int .u8 (dd.x5 : Int))).setCell ⟨w.heap.size, 6, none⟩ (.int .u8 (dd.x6 : Int))).setCell ⟨w.heap.size, 7, none⟩ (.int .u8 (dd.x7 : Int))) = w10 at *
      obtain ⟨zf, r0, r1, r2, r3, r4, r5, r6, r7⟩ := free8 h8
      have Hb2 := Lib.hid (Hbw.out.grown hg8 Hbw.out.size (fun k hk => by injection hk with hk; omega))
      clear h8 hg8
      refine bodyPost_ret (v := .agg #[.int .u8 (dd.x0 : Int), .int .u8 (dd.x1 : Int), .int .u8 (dd.x2 : Int), .int .u8 (dd.x3 : Int), .int .u8 (dd.x4 : Int), .int .u8 (dd.x5 : Int), .int .u8 (dd.x6 : Int), .int .u8 (dd.x7 : Int)]) (by simp [results, Tryz.results50, go_sem, r0, r1, r2, r3, r4, r5, r6, r7]) rfl ⟨by rw [Hout.out], Hb2.out⟩
end Go.Proofs.YthjpaclcoipocaaGreat
