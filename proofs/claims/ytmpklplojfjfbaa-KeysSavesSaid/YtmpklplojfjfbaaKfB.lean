/- The walk of KeysReserves. Condition: none. -/
import Derived.Test.YtmpklplojfjfbaaKfA
import Derived.Test.YtmpklplojfjfbaaKeZ
namespace Go.Proofs.Ytmpklplojfjfbaa
open Go.RowKit Go.Lib



theorem load_d8 {w : World} {b : Nat} {d : D8} (h : w.heap[b]? = some (.cells #[.int .u8 (d.x0 : Int), .int .u8 (d.x1 : Int), .int .u8 (d.x2 : Int), .int .u8 (d.x3 : Int), .int .u8 (d.x4 : Int), .int .u8 (d.x5 : Int), .int .u8 (d.x6 : Int), .int .u8 (d.x7 : Int)] 22 (0, 0))) : (Instr.loadAt 22 (.pointer (some ⟨b, 0, none⟩))).run Try.prog w = .ok (.agg #[.int .u8 (d.x0 : Int), .int .u8 (d.x1 : Int), .int .u8 (d.x2 : Int), .int .u8 (d.x3 : Int), .int .u8 (d.x4 : Int), .int .u8 (d.x5 : Int), .int .u8 (d.x6 : Int), .int .u8 (d.x7 : Int)]) w := by
  obtain ⟨zf, x0, x1, x2, x3, x4, x5, x6, x7⟩ := free8 h
  have hl := block_lt h
  go_simp
theorem enc_lt {i : Nat} (h : i < 256) : ∀ x ∈ encN i, x < 256 := by
  unfold encN
  by_cases h1 : i < 128
  · rw [enc7_small h1]; intro x hx; simp at hx; omega
  · rw [enc7_big h1, enc7_small (show i / 128 < 128 by omega)]; intro x hx; simp at hx; omega
theorem sign_lt {r : RingM} (hr : r.ok) (m : D8) : ∀ x ∈ (r.sign m).2.1, x < 256 := by
  have hb : ∀ (d : D8), d.ok → ∀ x ∈ d.bytes, x < 256 := fun d hd => D8.bytes_lt hd
  have hi := reserve_lt hr (m := m)
  have hh := (pow_le8 hr.2.1).2
  unfold RingM.sign
  simp only
  split
  · rename_i he
    have hi := hi he
    intro x hx
    simp only [RingM.sigB, List.mem_append] at hx
    rcases hx with (hx | hx) | hx
    · exact enc_lt (by omega) x hx
    · simp only [onceB, List.mem_flatMap] at hx
      obtain ⟨c, _, hc⟩ := hx
      exact hb _ (chainD_ok (startD_ok _ _) _) x hc
    · simp only [List.mem_flatMap] at hx
      obtain ⟨d, hd, hc⟩ := hx
      exact hb d (pathD_ok _ _ _ d hd) x hc
  · intro x hx; simp at hx
theorem sign_len {r : RingM} (hr : r.ok) (m : D8) : (r.sign m).2.1.length ≤ 219 := by
  have hh := hr.2.1
  have hs := (RingM.reserve_secret r m).2
  unfold RingM.sign
  simp only
  split
  · show (RingM.sigB _ _ _).length ≤ _
    simp only [RingM.sigB, List.length_append, onceB_len, flatB_take_len, pathD_len, hs]
    have := encN_len (r.reserve m).2.1
    omega
  · simp
theorem RingAt.hB {w : World} {B : Nat} {F : Nat → Prop} {T0 T1 br : Nat} {r : RingM} (a : RingAt w B F T0 T1 br r) : B ≤ w.heap.size := by
  have h0 := a.b0; have h1 := a.b1
  obtain ⟨mb, bt, h2, h3⟩ := a.led
  have := h3.lo; have := h3.hi
  omega
/-- Two rings beside one another. -/
structure Two (w : World) (B1 B2 : Nat) (F1 F2 : Nat → Prop) (T01 T11 T02 T12 br1 br2 : Nat) (r1 r2 : RingM) : Prop where
  a : RingAt w B1 F1 T01 T11 br1 r1
  b : RingAt w B2 F2 T02 T12 br2 r2
  d1 : ∀ k, F1 k → ¬ foot F2 T02 T12 k
  d2 : ∀ k, F2 k → ¬ foot F1 T01 T11 k
theorem Two.below {w w' : World} {B1 B2 : Nat} {F1 F2 : Nat → Prop} {T01 T11 T02 T12 br1 br2 : Nat} {r1 r2 : RingM} (t : Two w B1 B2 F1 F2 T01 T11 T02 T12 br1 br2 r1 r2) (hb : Below w.heap.size w w') : Two w' B1 B2 F1 F2 T01 T11 T02 T12 br1 br2 r1 r2 := ⟨t.a.below hb, t.b.below hb, t.d1, t.d2⟩
theorem Two.left {w w' : World} {M B1 B2 : Nat} {F1 F2 : Nat → Prop} {T01 T11 T02 T12 br1 br2 : Nat} {r1 r2 r1' : RingM} (t : Two w B1 B2 F1 F2 T01 T11 T02 T12 br1 br2 r1 r2) (hc : Chg F1 w w') (a' : RingAt w' B1 (upto F1 w.heap.size M) T01 T11 br1 r1') : Two w' B1 B2 (upto F1 w.heap.size M) F2 T01 T11 T02 T12 br1 br2 r1' r2 := by
  have hl := t.b.foot_lt
  refine ⟨a', t.b.other hc t.d1, ?_, ?_⟩
  · rintro k (h | h) hf
    · exact t.d1 k h hf
    · have := hl k hf; omega
  · rintro k h ((h2 | h2) | h2)
    · exact t.d2 k h (.inl h2)
    · have := (hl k (.inl h)).2; omega
    · exact t.d2 k h (.inr h2)
theorem Two.right {w w' : World} {M B1 B2 : Nat} {F1 F2 : Nat → Prop} {T01 T11 T02 T12 br1 br2 : Nat} {r1 r2 r2' : RingM} (t : Two w B1 B2 F1 F2 T01 T11 T02 T12 br1 br2 r1 r2) (hc : Chg F2 w w') (b' : RingAt w' B2 (upto F2 w.heap.size M) T02 T12 br2 r2') : Two w' B1 B2 F1 (upto F2 w.heap.size M) T01 T11 T02 T12 br1 br2 r1 r2' := by
  have := Two.left (M := M) ⟨t.b, t.a, t.d2, t.d1⟩ hc b'
  exact ⟨this.b, this.a, this.d2, this.d1⟩
set_option maxRecDepth 100000 in
set_option maxHeartbeats 4000000 in
theorem reserves_any (s : D8) (h : Nat) (A : Option Addr) (n c : Nat) (l : List D8) (w : World) (hs : s.ok) (hh : h < 256) (hr : Rd w w.heap.size 8 A n (flatD l)) (hok : ∀ d ∈ l, d.ok) :
    Calls Try.prog 3 #[.agg #[.int .u8 (s.x0 : Int), .int .u8 (s.x1 : Int), .int .u8 (s.x2 : Int), .int .u8 (s.x3 : Int), .int .u8 (s.x4 : Int), .int .u8 (s.x5 : Int), .int .u8 (s.x6 : Int), .int .u8 (s.x7 : Int)], .int .u8 (h : Int), .slice A n c] w fun e w' => e = .returned (.bool true) ∧ Below w.heap.size w w' := by
  have Hs := Lib.hid hs; have Hr := Lib.hid hr; have Hok := Lib.hid hok; have Hl := Lib.hid hr.dlenD
  have HX0 : Hid ((w.alloc (.cells #[.int .u8 (s.x0 : Int), .int .u8 (s.x1 : Int), .int .u8 (s.x2 : Int), .int .u8 (s.x3 : Int), .int .u8 (s.x4 : Int), .int .u8 (s.x5 : Int), .int .u8 (s.x6 : Int), .int .u8 (s.x7 : Int)] 22)).heap[w.heap.size]? = some (.cells #[.int .u8 (s.x0 : Int), .int .u8 (s.x1 : Int), .int .u8 (s.x2 : Int), .int .u8 (s.x3 : Int), .int .u8 (s.x4 : Int), .int .u8 (s.x5 : Int), .int .u8 (s.x6 : Int), .int .u8 (s.x7 : Int)] 22 (0, 0))) := heap_alloc_new w _
  have Hw0 := Lib.hid (h_one w (.cells #[.int .u8 (s.x0 : Int), .int .u8 (s.x1 : Int), .int .u8 (s.x2 : Int), .int .u8 (s.x3 : Int), .int .u8 (s.x4 : Int), .int .u8 (s.x5 : Int), .int .u8 (s.x6 : Int), .int .u8 (s.x7 : Int)] 22))
  clear hs hr hok
  by_cases hbig : 8 < n
  · have hd0 : decide ((8 : Int) < (n : Int)) = true := decide_eq_true (by omega)
    clear hbig
    go_enter Try.func3, Try.ntmps3
    go_upto_region 1 with fail
    generalize w.alloc (.cells #[.int .u8 (s.x0 : Int), .int .u8 (s.x1 : Int), .int .u8 (s.x2 : Int), .int .u8 (s.x3 : Int), .int .u8 (s.x4 : Int), .int .u8 (s.x5 : Int), .int .u8 (s.x6 : Int), .int .u8 (s.x7 : Int)] 22) = w1 at *
    go_wp2_with fail
    refine (known_any w1).mono ?_
    rintro e w2 ⟨rfl, hb2⟩
    have Hw2 := Lib.hid (Hw0.out.trans (hb2.mono Hw0.out.size))
    clear hb2
    go_wp2_with fail
    refine (known_any w2).mono ?_
    rintro e w3 ⟨rfl, hb3⟩
    have Hw3 := Lib.hid (Hw2.out.trans (hb3.mono Hw2.out.size))
    clear hb3
    go_wp2
    go_ret
    exact ⟨rfl, Hw3.out⟩
  have hd0 : decide ((8 : Int) < (n : Int)) = false := decide_eq_false (by omega)
  have hn : n ≤ 8 := by omega
  have e4 : ((h % 4 : Nat) : Int) = (h : Int) % 4 := by omega
  have Hnew : Hid (∀ u : World, Calls Try.prog 8 #[.agg #[.int .u8 (s.x0 : Int), .int .u8 (s.x1 : Int), .int .u8 (s.x2 : Int), .int .u8 (s.x3 : Int), .int .u8 (s.x4 : Int), .int .u8 (s.x5 : Int), .int .u8 (s.x6 : Int), .int .u8 (s.x7 : Int)], .int .i64 ((h : Int) % 4)] u fun e u' => ∃ br F T0 T1, e = .returned (.tuple #[.pointer (some ⟨br, 0, none⟩), .int .i64 0]) ∧ RingAt u' u.heap.size F T0 T1 br (RingM.new s (h % 4)) ∧ Below u.heap.size u u') := Lib.hid fun u => by
    have := new_any s (h % 4) u Hs.out (by omega)
    rwa [e4] at this
  have Hrok : Hid ((RingM.new s (h % 4)).ok) := Lib.hid ⟨Hs.out, by show h % 4 ≤ 8; omega, List.nodup_nil, fun d hd => by simp [RingM.new] at hd, by simp [RingM.new]⟩
  generalize RingM.new s (h % 4) = r0 at *
  clear hbig e4
  go_enter Try.func3, Try.ntmps3
  go_upto_region 1 with fail
  generalize w.alloc (.cells #[.int .u8 (s.x0 : Int), .int .u8 (s.x1 : Int), .int .u8 (s.x2 : Int), .int .u8 (s.x3 : Int), .int .u8 (s.x4 : Int), .int .u8 (s.x5 : Int), .int .u8 (s.x6 : Int), .int .u8 (s.x7 : Int)] 22) = w1 at *
  go_wp2_with fail
  refine (known_any w1).mono ?_
  rintro e w2 ⟨rfl, hb2⟩
  have Hw2 := Lib.hid (Hw0.out.trans (hb2.mono Hw0.out.size)); have hx2 := block_below HX0.out hb2 (block_lt HX0.out)
  have HX2 := Lib.hid hx2
  obtain ⟨zf, x0, x1, x2, x3, x4, x5, x6, x7⟩ := free8 hx2
  have hlx := block_lt hx2
  clear hb2 hx2 zf HX0 Hw0
  go_wp2_with fail
  refine (Hnew.out w2).mono ?_
  rintro e w3 ⟨br1, F1, T01, T11, rfl, ha3, hb3⟩
  have HA3 := Lib.hid ha3; have Hw3 := Lib.hid (Hw2.out.trans (hb3.mono Hw2.out.size)); have hx3 := block_below HX2.out hb3 hlx
  have hlx3 := block_lt hx3
  clear x0 x1 x2 x3 x4 x5 x6 x7
  obtain ⟨zf, x0, x1, x2, x3, x4, x5, x6, x7⟩ := free8 hx3
  clear ha3 hb3 hx3 zf HX2 Hw2
  go_wp2_with fail
  refine (Hnew.out w3).mono ?_
  rintro e w4 ⟨br2, F2, T02, T12, rfl, ha4, hb4⟩
  have Hw4 := Lib.hid (Hw3.out.trans (hb4.mono Hw3.out.size))
  have HT4 : Hid (Two w4 w2.heap.size w3.heap.size F1 F2 T01 T11 T02 T12 br1 br2 r0 r0) := Lib.hid ⟨HA3.out.below hb4, ha4, fun k h1 h2 => by have := (HA3.out.foot_lt k (.inl h1)).2; have := (ha4.foot_lt k h2).1; omega, fun k h1 h2 => by have := (HA3.out.foot_lt k h2).2; have := (ha4.foot_lt k (.inl h1)).1; omega⟩
  have HB1 : Hid (w.heap.size ≤ w2.heap.size ∧ w.heap.size ≤ w3.heap.size) := Lib.hid ⟨by omega, Hw3.out.size⟩
  clear ha4 hb4 x0 x1 x2 x3 x4 x5 x6 x7 HA3 Hw3 Hnew
  generalize w2.heap.size = B1 at *
  generalize w3.heap.size = B2 at *
  go_wp2
  go_loopw [59] (fun i wr => ∃ (k : Nat) (G2 : Nat → Prop), k ≤ n ∧ i = .int .i64 (k : Int) ∧ Two wr B1 B2 F1 G2 T01 T11 T02 T12 br1 br2 r0 (r0.resAll (l.take k)) ∧ Below w.heap.size w wr) (fun i _ => n - (RowKit.intOf i).toNat)
  case atStart => exact ⟨0, F2, Nat.zero_le _, rfl, HT4.out, Hw4.out⟩
  case round =>
    obtain ⟨k, G2, hk, rfl, ht, hw⟩ := hrel
    have HT := Lib.hid ht; have Hw := Lib.hid hw
    clear ht hw HT4 Hw4
    by_cases hlt : k < n
    · have hd1 : decide ((k : Int) < (n : Int)) = true := decide_eq_true (by omega)
      have hki : (k : Int) < (n : Int) := by omega
      obtain ⟨b, o, rfl, hbB, x0, x1, x2, x3, x4, x5, x6, x7⟩ := (Hr.out.below Hw.out (Nat.le_refl _)).di8 hlt
      have Hsn := Lib.hid (resAll_snoc r0 l (k := k) (by have := Hl.out; omega))
      have Hq := Lib.hid (getD_ok Hok.out k)
      generalize l.getD k D8.zero = q at *
      generalize r0.resAll (l.take k) = rk at *
      have Hk := Lib.hid hlt
      have hbl : b < wr.heap.size := by have := Hw.out.size; omega
      have hb2 := h_one wr (.cells #[.int .u8 (q.x0 : Int), .int .u8 (q.x1 : Int), .int .u8 (q.x2 : Int), .int .u8 (q.x3 : Int), .int .u8 (q.x4 : Int), .int .u8 (q.x5 : Int), .int .u8 (q.x6 : Int), .int .u8 (q.x7 : Int)] 22)
      have HT2 := Lib.hid (HT.out.below hb2); have Hw2 := Lib.hid (Hw.out.trans (hb2.mono Hw.out.size))
      have hX2 : (wr.alloc (.cells #[.int .u8 (q.x0 : Int), .int .u8 (q.x1 : Int), .int .u8 (q.x2 : Int), .int .u8 (q.x3 : Int), .int .u8 (q.x4 : Int), .int .u8 (q.x5 : Int), .int .u8 (q.x6 : Int), .int .u8 (q.x7 : Int)] 22)).heap[wr.heap.size]? = some (.cells #[.int .u8 (q.x0 : Int), .int .u8 (q.x1 : Int), .int .u8 (q.x2 : Int), .int .u8 (q.x3 : Int), .int .u8 (q.x4 : Int), .int .u8 (q.x5 : Int), .int .u8 (q.x6 : Int), .int .u8 (q.x7 : Int)] 22 (0, 0)) := heap_alloc_new wr _
      go_upto_region 10 with fail
      generalize wr.alloc (.cells #[.int .u8 (q.x0 : Int), .int .u8 (q.x1 : Int), .int .u8 (q.x2 : Int), .int .u8 (q.x3 : Int), .int .u8 (q.x4 : Int), .int .u8 (q.x5 : Int), .int .u8 (q.x6 : Int), .int .u8 (q.x7 : Int)] 22) = w5 at *
      clear x0 x1 x2 x3 x4 x5 x6 x7 HT Hw hb2 hbl
      obtain ⟨zf, x0, x1, x2, x3, x4, x5, x6, x7⟩ := free8 hX2
      have hlx2 := block_lt hX2
      clear zf hX2
      go_wp2_with fail
      refine (reserve_any q HT2.out.b Hq.out HT2.out.b.hB).mono ?_
      rintro e w6 ⟨rfl, hc6, ha6⟩
      have HT6 := Lib.hid (HT2.out.right (M := w6.heap.size) hc6 ha6)
      have Hw6 := Lib.hid (Hw2.out.trans (hc6.below (fun j hj => Nat.le_trans HB1.out.2 (HT2.out.b.foot_lt j (.inl hj)).1) Hw2.out.size))
      rw [← Hsn.out] at HT6
      clear hc6 ha6 x0 x1 x2 x3 x4 x5 x6 x7 HT2 Hw2
      go_wp2
      go_roundw
      case rel => exact ⟨k + 1, _, Hk.out, by go_num, HT6.out, Hw6.out⟩
      case measure => have := Hk.out; simp [RowKit.intOf]; omega
    · obtain rfl : k = n := by omega
      have hd1 : decide ((k : Int) < (k : Int)) = false := by simp
      have htk : l.take k = l := List.take_of_length_le (by rw [Hl.out]; exact Nat.le_refl _)
      rw [htk] at HT
      clear hlt hk
      go_wp2
      go_loopw [69] (fun i wr => ∃ (j : Nat) (G1 G2 : Nat → Prop), j ≤ k ∧ i = .int .i64 (j : Int) ∧ Two wr B1 B2 G1 G2 T01 T11 T02 T12 br1 br2 (r0.resAll (l.take j)) (r0.resAll l) ∧ Below w.heap.size w wr) (fun i _ => k - (RowKit.intOf i).toNat)
      case atStart => exact ⟨0, _, _, Nat.zero_le _, rfl, HT.out, Hw.out⟩
      case round =>
        obtain ⟨j, G1, G2', hj, rfl, ht, hw⟩ := hrel
        have HT := Lib.hid ht; have Hw := Lib.hid hw
        clear ht hw
        by_cases hlt : j < k
        · have hd2 : decide ((j : Int) < (k : Int)) = true := decide_eq_true (by omega)
          have hki : (j : Int) < (k : Int) := by omega
          obtain ⟨b, o, rfl, hbB, x0, x1, x2, x3, x4, x5, x6, x7⟩ := (Hr.out.below Hw.out (Nat.le_refl _)).di8 hlt
          have hjl : j < l.length := by have := Hl.out; omega
          have Hsn := Lib.hid (resAll_snoc r0 l hjl)
          have Hq := Lib.hid (getD_ok Hok.out j)
          have hpre : (((r0.resAll (l.take j)).reserve (l.getD j D8.zero)).1.led) <+: (r0.resAll l).led := by
            rw [← resAll_snoc r0 l hjl]
            have := resAll_pre (r0.resAll (l.take (j + 1))) (l.drop (j + 1))
            rwa [← resAll_app, List.take_append_drop] at this
          have s1 := resAll_secret r0 (l.take j); have s2 := resAll_secret r0 l
          have hlat := sign_later (s1.1.trans s2.1.symm) (s1.2.trans s2.2.symm) HT.out.a.ok HT.out.b.ok Hq.out hpre
          have Hlat := Lib.hid hlat
          have Hoka := Lib.hid HT.out.a.ok; have Hokb := Lib.hid HT.out.b.ok
          clear hpre s1 s2 hlat hjl
          generalize l.getD j D8.zero = q at *
          generalize r0.resAll (l.take j) = rj at *
          generalize r0.resAll l = rb at *
          have Hj := Lib.hid hlt
          have hbl : b < wr.heap.size := by have := Hw.out.size; omega
          have hb2 := h_one wr (.cells #[.int .u8 (q.x0 : Int), .int .u8 (q.x1 : Int), .int .u8 (q.x2 : Int), .int .u8 (q.x3 : Int), .int .u8 (q.x4 : Int), .int .u8 (q.x5 : Int), .int .u8 (q.x6 : Int), .int .u8 (q.x7 : Int)] 22)
          have HT2 := Lib.hid (HT.out.below hb2); have Hw2 := Lib.hid (Hw.out.trans (hb2.mono Hw.out.size))
          have hX2 : (wr.alloc (.cells #[.int .u8 (q.x0 : Int), .int .u8 (q.x1 : Int), .int .u8 (q.x2 : Int), .int .u8 (q.x3 : Int), .int .u8 (q.x4 : Int), .int .u8 (q.x5 : Int), .int .u8 (q.x6 : Int), .int .u8 (q.x7 : Int)] 22)).heap[wr.heap.size]? = some (.cells #[.int .u8 (q.x0 : Int), .int .u8 (q.x1 : Int), .int .u8 (q.x2 : Int), .int .u8 (q.x3 : Int), .int .u8 (q.x4 : Int), .int .u8 (q.x5 : Int), .int .u8 (q.x6 : Int), .int .u8 (q.x7 : Int)] 22 (0, 0)) := heap_alloc_new wr _
          have HX2 := Lib.hid hX2
          have Hf := Lib.hid (And.intro (fun z hz => (HT.out.a.foot_lt z (.inl hz)).2) (fun z hz => (HT.out.b.foot_lt z (.inl hz)).2))
          go_upto_region 15 with fail
          generalize wr.alloc (.cells #[.int .u8 (q.x0 : Int), .int .u8 (q.x1 : Int), .int .u8 (q.x2 : Int), .int .u8 (q.x3 : Int), .int .u8 (q.x4 : Int), .int .u8 (q.x5 : Int), .int .u8 (q.x6 : Int), .int .u8 (q.x7 : Int)] 22) = w5 at *
          clear x0 x1 x2 x3 x4 x5 x6 x7 HT Hw hb2 hbl
          obtain ⟨zf, x0, x1, x2, x3, x4, x5, x6, x7⟩ := free8 hX2
          have hlx2 := block_lt hX2
          clear zf hX2
          go_wp2_with fail
          refine (rsign_any q HT2.out.a Hq.out HT2.out.a.hB).mono ?_
          rintro e w6 ⟨M6, A6, n6, c6, hm6, hm6', rfl, ho6, hn6, hc6, ha6⟩
          clear hn6
          rw [sign_ring, ← Hsn.out] at ha6
          have hX6 := (hc6.block _ hlx2 (fun hf => by have := Hf.out.1 _ hf; omega)).trans HX2.out
          have HT6 := Lib.hid (HT2.out.left (M := M6) hc6 ha6)
          have HX6 := Lib.hid hX6
          have Hw6 := Lib.hid (Hw2.out.trans (hc6.below (fun z hz => Nat.le_trans HB1.out.1 (HT2.out.a.foot_lt z (.inl hz)).1) Hw2.out.size))
          have HO6 := Lib.hid ho6
          have HM6 := Lib.hid hm6
          have hls6 : w5.heap.size ≤ w6.heap.size := hc6.size
          clear x0 x1 x2 x3 x4 x5 x6 x7 hc6 ha6 HT2 Hw2 ho6
          obtain ⟨zf, x0, x1, x2, x3, x4, x5, x6, x7⟩ := free8 hX6
          have hlx6 := block_lt hX6
          clear zf hX6
          go_wp2_with fail
          refine (rsign_any q HT6.out.b Hq.out HT6.out.b.hB).mono ?_
          rintro e w7 ⟨M7, A7, n7, c7, hm7, hm7', rfl, ho7, hn7, hc7, ha7⟩
          clear hn7
          rw [sign_ring, Hlat.out.1] at ha7
          have HT7 := Lib.hid (HT6.out.right (M := M7) hc7 ha7)
          have Hw7 := Lib.hid (Hw6.out.trans (hc7.below (fun z hz => Nat.le_trans HB1.out.2 (HT6.out.b.foot_lt z (.inl hz)).1) Hw6.out.size))
          have hr6 : w7.ownsRow M6 5 1 (.slice A6 n6 c6) n6 (bv (rj.sign q).2.1) := own_keep HO6.out (fun g hg => hc7.block g (HO6.out.lt g hg).2 (fun hf => by have := Hf.out.2 g hf; have := (HO6.out.lt g hg).1; omega))
          have HR6 := Lib.hid (Rd.of_own hr6); have HR7 := Lib.hid (Rd.of_own ho7)
          have Hlt6 := Lib.hid (sign_lt Hoka.out q); have Hlt7 := Lib.hid (sign_lt Hokb.out q)
          have hsame : sameB (rj.sign q).2.1 (rb.sign q).2.1 = true := sameB_yes (by rw [Hlat.out.2])
          have herr : (rj.sign q).2.2 = (rb.sign q).2.2 := by rw [Hlat.out.2]
          rw [herr]
          have Hsame := Lib.hid hsame
          clear x0 x1 x2 x3 x4 x5 x6 x7 hc7 ha7 HT6 Hw6 ho7 hr6 HO6 hsame herr hm6 hm6' hm7 hm7'
          generalize (rj.sign q).2.1 = sa at *
          generalize (rb.sign q).2.1 = sb at *
          generalize (rb.sign q).2.2 = er at *
          go_wp2_with fail
          refine (lsame_any A6 A7 n6 c6 n7 c7 sa sb w7 HR6.out HR7.out Hlt6.out Hlt7.out).mono ?_
          rintro e w8 ⟨rfl, hb8⟩
          rw [Hsame.out]
          have HT8 := Lib.hid (HT7.out.below hb8); have Hw8 := Lib.hid (Hw7.out.trans (hb8.mono Hw7.out.size))
          clear hb8 HT7 Hw7 HR6 HR7
          go_wp2
          go_roundw
          case rel => exact ⟨j + 1, _, _, Hj.out, by go_num, HT8.out, Hw8.out⟩
          case measure => have := Hj.out; simp [RowKit.intOf]; omega
        · obtain rfl : j = k := by omega
          have hd2 : decide ((j : Int) < (j : Int)) = false := by simp
          rw [htk] at HT
          have Hself := Lib.hid (sameR_self (r0.resAll l))
          clear hlt hj
          go_wp2_with fail
          refine (same_any HT.out.a HT.out.b).mono ?_
          rintro e w5 ⟨rfl, hb5⟩
          rw [Hself.out]
          have HT5 := Lib.hid (HT.out.below hb5); have Hw5 := Lib.hid (Hw.out.trans (hb5.mono Hw.out.size))
          clear hb5 HT Hw
          go_wp2_with fail
          refine (same_any HT5.out.b HT5.out.a).mono ?_
          rintro e w6 ⟨rfl, hb6⟩
          rw [Hself.out]
          have Hw6 := Lib.hid (Hw5.out.trans (hb6.mono Hw5.out.size))
          clear hb6 HT5 Hw5
          go_wp2
          go_ret
          exact ⟨rfl, Hw6.out⟩
end Go.Proofs.Ytmpklplojfjfbaa
