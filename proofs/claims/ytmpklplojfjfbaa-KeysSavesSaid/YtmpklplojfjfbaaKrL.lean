/- The walk of KeysSaves. Condition: none. -/
import Derived.Test.YtmpklplojfjfbaaJoinS
import Derived.Test.YtmpklplojfjfbaaKrI
import Derived.Test.YtmpklplojfjfbaaJoinU
namespace Go.Proofs.Ytmpklplojfjfbaa
open Go.RowKit Go.Lib





theorem rd_other {w w' : World} {B sz n : Nat} {A : Option Addr} {xs : List Value} (h : Rd w B sz A n xs) (hk : ∀ ad, A = some ad → w'.heap[ad.block]? = w.heap[ad.block]?) : Rd w' B sz A n xs :=
  ⟨h.1, fun hn => by
    obtain ⟨b, o, e, hb, hc⟩ := h.2 hn
    exact ⟨b, o, e, hb, fun j u hu => (World.cell?_of_block (a := ⟨b, o + j, none⟩) (hk ⟨b, o, none⟩ e)).trans (hc j u hu)⟩⟩
/-- A row lies beside a ring, and beside one more block. -/
def Apt (w : World) (A : Option Addr) (F : Nat → Prop) (T0 T1 bd : Nat) : Prop := ∀ ad, A = some ad → ad.block < w.heap.size ∧ ad.block ≠ bd ∧ ¬ foot F T0 T1 ad.block
theorem openN_err {l : List Nat} (h : (openN l).1 = none) : (openN l).2 ≠ 0 := by
  rw [openN_ref] at h ⊢
  split at h
  · rename_i h1
    rw [if_pos h1]
    exact h1
  · cases h
set_option maxRecDepth 100000 in
set_option maxHeartbeats 8000000 in
theorem ksaves_any (a : D8) (h : Nat) (A : Option Addr) (n c : Nat) (l : List D8) (A' : Option Addr) (n' c' : Nat) (b : List Nat) (w : World) (ha : a.ok) (hh : h < 256) (hr : Rd w w.heap.size 8 A n (flatD l)) (hok : ∀ d ∈ l, d.ok) (hr' : Rd w w.heap.size 1 A' n' (bv b)) (hnc' : n' ≤ c') (hb : ∀ x ∈ b, x < 256) :
    Calls Try.prog 4 #[.agg #[.int .u8 (a.x0 : Int), .int .u8 (a.x1 : Int), .int .u8 (a.x2 : Int), .int .u8 (a.x3 : Int), .int .u8 (a.x4 : Int), .int .u8 (a.x5 : Int), .int .u8 (a.x6 : Int), .int .u8 (a.x7 : Int)], .int .u8 (h : Int), .slice A n c, .slice A' n' c'] w fun e w' => e = .returned (.bool true) ∧ Below w.heap.size w w' := by
  have Ha := Lib.hid ha; have Hr := Lib.hid hr; have Hok := Lib.hid hok; have Hl := Lib.hid hr.dlenD; have Hr' := Lib.hid hr'; have Hb := Lib.hid hb
  have HA0 : Hid ((w.alloc (.cells #[.int .u8 (a.x0 : Int), .int .u8 (a.x1 : Int), .int .u8 (a.x2 : Int), .int .u8 (a.x3 : Int), .int .u8 (a.x4 : Int), .int .u8 (a.x5 : Int), .int .u8 (a.x6 : Int), .int .u8 (a.x7 : Int)] 22)).heap[w.heap.size]? = some (.cells #[.int .u8 (a.x0 : Int), .int .u8 (a.x1 : Int), .int .u8 (a.x2 : Int), .int .u8 (a.x3 : Int), .int .u8 (a.x4 : Int), .int .u8 (a.x5 : Int), .int .u8 (a.x6 : Int), .int .u8 (a.x7 : Int)] 22 (0, 0))) := heap_alloc_new w _
  have Hw0 := Lib.hid (h_one w (.cells #[.int .u8 (a.x0 : Int), .int .u8 (a.x1 : Int), .int .u8 (a.x2 : Int), .int .u8 (a.x3 : Int), .int .u8 (a.x4 : Int), .int .u8 (a.x5 : Int), .int .u8 (a.x6 : Int), .int .u8 (a.x7 : Int)] 22))
  clear ha hr hok hr' hb
  by_cases hbig : 8 < n
  · have hd0 : decide ((8 : Int) < (n : Int)) = true := decide_eq_true (by omega)
    clear hbig
    go_enter Try.func4, Try.ntmps4
    go_upto_region 1 with fail
    generalize w.alloc (.cells #[.int .u8 (a.x0 : Int), .int .u8 (a.x1 : Int), .int .u8 (a.x2 : Int), .int .u8 (a.x3 : Int), .int .u8 (a.x4 : Int), .int .u8 (a.x5 : Int), .int .u8 (a.x6 : Int), .int .u8 (a.x7 : Int)] 22) = w1 at *
    go_wp2_with fail
    refine (known_any w1).mono ?_
    rintro e w2 ⟨rfl, hb2⟩
    have Hw2 := Lib.hid (Hw0.out.trans (hb2.mono Hw0.out.size))
    clear hb2
    go_wp2_with fail
    refine (known_any w2).mono ?_
    rintro e w3 ⟨rfl, hb3⟩
    have Hw3 := Lib.hid (Hw2.out.trans (hb3.mono Hw2.out.size))
    clear hb3
    go_wp2
    go_ret
    exact ⟨rfl, Hw3.out⟩
  have hd0 : decide ((8 : Int) < (n : Int)) = false := decide_eq_false (by omega)
  have hn : n ≤ 8 := by omega
  clear hbig
  by_cases hbig : 600 < n'
  · have hd1 : decide ((600 : Int) < (n' : Int)) = true := decide_eq_true (by omega)
    clear hbig
    go_enter Try.func4, Try.ntmps4
    go_upto_region 1 with fail
    generalize w.alloc (.cells #[.int .u8 (a.x0 : Int), .int .u8 (a.x1 : Int), .int .u8 (a.x2 : Int), .int .u8 (a.x3 : Int), .int .u8 (a.x4 : Int), .int .u8 (a.x5 : Int), .int .u8 (a.x6 : Int), .int .u8 (a.x7 : Int)] 22) = w1 at *
    go_wp2_with fail
    refine (known_any w1).mono ?_
    rintro e w2 ⟨rfl, hb2⟩
    have Hw2 := Lib.hid (Hw0.out.trans (hb2.mono Hw0.out.size))
    clear hb2
    go_wp2_with fail
    refine (known_any w2).mono ?_
    rintro e w3 ⟨rfl, hb3⟩
    have Hw3 := Lib.hid (Hw2.out.trans (hb3.mono Hw2.out.size))
    clear hb3
    go_wp2
    go_ret
    exact ⟨rfl, Hw3.out⟩
  have hd1 : decide ((600 : Int) < (n' : Int)) = false := decide_eq_false (by omega)
  have hn' : n' ≤ 600 := by omega
  clear hbig
  obtain ⟨q, hq⟩ : ∃ q, q = h % 4 := ⟨_, rfl⟩
  have e4 : (h : Int) % 4 = (q : Int) := by omega
  have hq4 : q ≤ 3 := by omega
  clear hq
  go_enter Try.func4, Try.ntmps4
  go_upto_region 1 with fail
  generalize w.alloc (.cells #[.int .u8 (a.x0 : Int), .int .u8 (a.x1 : Int), .int .u8 (a.x2 : Int), .int .u8 (a.x3 : Int), .int .u8 (a.x4 : Int), .int .u8 (a.x5 : Int), .int .u8 (a.x6 : Int), .int .u8 (a.x7 : Int)] 22) = w1 at *
  go_wp2_with fail
  refine (known_any w1).mono ?_
  rintro e w2 ⟨rfl, hb2⟩
  have Hw2 := Lib.hid (Hw0.out.trans (hb2.mono Hw0.out.size)); have hx2 := block_below HA0.out hb2 (block_lt HA0.out)
  have HX2 := Lib.hid hx2
  have hW2 : w.heap.size + 1 ≤ w2.heap.size := by have := block_lt HX2.out; omega
  clear hb2 HA0 Hw0
  obtain ⟨zf, x0, x1, x2, x3, x4, x5, x6, x7⟩ := free8 hx2
  have hlx := block_lt hx2
  clear hx2 zf
  have HQ3 : Hid ((w2.alloc (.cells #[.int .u8 (a.x0 : Int), .int .u8 (a.x1 : Int), .int .u8 (a.x2 : Int), .int .u8 (a.x3 : Int), .int .u8 (a.x4 : Int), .int .u8 (a.x5 : Int), .int .u8 (a.x6 : Int), .int .u8 (a.x7 : Int), .int .i64 (q : Int), (.slice none 0 0)] 39)).heap[w2.heap.size]? = some (.cells #[.int .u8 (a.x0 : Int), .int .u8 (a.x1 : Int), .int .u8 (a.x2 : Int), .int .u8 (a.x3 : Int), .int .u8 (a.x4 : Int), .int .u8 (a.x5 : Int), .int .u8 (a.x6 : Int), .int .u8 (a.x7 : Int), .int .i64 (q : Int), (.slice none 0 0)] 39 (0, 0))) := heap_alloc_new w2 _
  have HX3 := Lib.hid (block_alloc HX2.out (.cells #[.int .u8 (a.x0 : Int), .int .u8 (a.x1 : Int), .int .u8 (a.x2 : Int), .int .u8 (a.x3 : Int), .int .u8 (a.x4 : Int), .int .u8 (a.x5 : Int), .int .u8 (a.x6 : Int), .int .u8 (a.x7 : Int), .int .i64 (q : Int), (.slice none 0 0)] 39)); have Hw3 := Lib.hid (Hw2.out.alloc Hw2.out.size (.cells #[.int .u8 (a.x0 : Int), .int .u8 (a.x1 : Int), .int .u8 (a.x2 : Int), .int .u8 (a.x3 : Int), .int .u8 (a.x4 : Int), .int .u8 (a.x5 : Int), .int .u8 (a.x6 : Int), .int .u8 (a.x7 : Int), .int .i64 (q : Int), (.slice none 0 0)] 39))
  go_upto_region 4 with fail
  simp only [e4]
  generalize w2.alloc (.cells #[.int .u8 (a.x0 : Int), .int .u8 (a.x1 : Int), .int .u8 (a.x2 : Int), .int .u8 (a.x3 : Int), .int .u8 (a.x4 : Int), .int .u8 (a.x5 : Int), .int .u8 (a.x6 : Int), .int .u8 (a.x7 : Int), .int .i64 (q : Int), (.slice none 0 0)] 39) = w3 at *
  generalize w2.heap.size = bd at *
  clear x0 x1 x2 x3 x4 x5 x6 x7 hlx HX2 Hw2
  obtain ⟨zf, x0, x1, x2, x3, x4, x5, x6, x7⟩ := free8 HX3.out
  have hlx := block_lt HX3.out; have hlq := block_lt HQ3.out
  have y8 : w3.cell? ⟨bd, 8, none⟩ = some (.int .i64 (q : Int)) := (block_cell HQ3.out 8).trans rfl
  clear zf
  go_wp2_with fail
  refine (new_any a q w3 Ha.out (by omega)).mono ?_
  rintro e w4 ⟨bx, F, T0, T1, rfl, ha4, hb4⟩
  have HT4 : Hid (Held w4 w3.heap.size F T0 T1 bx (RingM.new a q)) := Lib.hid (held_new ha4 (Nat.le_refl _))
  have Hw4 := Lib.hid (Hw3.out.trans (hb4.mono Hw3.out.size)); have HQ4 := Lib.hid (block_below HQ3.out hb4 hlq)
  have HW := Lib.hid Hw3.out.size
  clear ha4 hb4 x0 x1 x2 x3 x4 x5 x6 x7 y8 HX3 HQ3 Hw3 hlx
  generalize w3.heap.size = W at *
  generalize hx0 : RingM.new a q = x0 at *
  have Hx0 := Lib.hid hx0
  clear hx0
  go_wp2
  go_loopw [51] (fun i wr => ∃ (k : Nat) (F' : Nat → Prop) (A2 : Option Addr) (n2 c2 : Nat), k ≤ n ∧ i = .int .i64 (k : Int) ∧ Held wr W F' T0 T1 bx (x0.resAll (l.take k)) ∧ wr.heap[bd]? = some (.cells #[.int .u8 (a.x0 : Int), .int .u8 (a.x1 : Int), .int .u8 (a.x2 : Int), .int .u8 (a.x3 : Int), .int .u8 (a.x4 : Int), .int .u8 (a.x5 : Int), .int .u8 (a.x6 : Int), .int .u8 (a.x7 : Int), .int .i64 (q : Int), (.slice A2 n2 c2)] 39 (0, 0)) ∧ Rd wr wr.heap.size 8 A2 n2 (flatD (x0.resAll (l.take k)).led) ∧ Apt wr A2 F' T0 T1 bd ∧ Below w.heap.size w wr) (fun i _ => n - (RowKit.intOf i).toNat)
  case atStart =>
    refine ⟨0, F, none, 0, 0, Nat.zero_le _, rfl, HT4.out, HQ4.out, ?_, fun ad h => (by cases h), Hw4.out⟩
    rw [← Hx0.out]
    exact Rd.empty
  case round =>
    obtain ⟨k, F', A2, n2, c2, hk, rfl, ht, hq2, hr2, hap, hw⟩ := hrel
    have HT := Lib.hid ht; have HQ := Lib.hid hq2; have HR := Lib.hid hr2; have HAp := Lib.hid hap; have Hw := Lib.hid hw
    have Hrk : Hid (RingM.mk a q (x0.resAll (l.take k)).led = x0.resAll (l.take k)) := Lib.hid (by
      have h1 := resAll_secret x0 (l.take k)
      rw [← Hx0.out] at h1 ⊢
      obtain ⟨h2, h3⟩ := h1
      generalize (RingM.new a q).resAll (l.take k) = z at *
      obtain ⟨z1, z2, z3⟩ := z
      simp only at h2 h3 ⊢
      rw [h2, h3]
      rfl)
    clear ht hq2 hr2 hap hw HT4 HQ4 Hw4
    by_cases hlt : k < n
    · have hd2 : decide ((k : Int) < (n : Int)) = true := decide_eq_true (by omega)
      have hki : (k : Int) < (n : Int) := by omega
      obtain ⟨bb, o, rfl, hbB, y0, y1, y2, y3, y4, y5, y6, y7⟩ := (Hr.out.below Hw.out (Nat.le_refl _)).di8 hlt
      have hkl : k < l.length := by have := Hl.out; omega
      have Hs1 := Lib.hid (resAll_snoc x0 l hkl)
      have Hq := Lib.hid (getD_ok Hok.out k)
      generalize l.getD k D8.zero = m at *
      generalize x0.resAll (l.take k) = rx at *
      have Hk := Lib.hid hlt
      have hbl : bb < wr.heap.size := by have := Hw.out.size; omega
      have hb2 := h_one wr (.cells #[.int .u8 (m.x0 : Int), .int .u8 (m.x1 : Int), .int .u8 (m.x2 : Int), .int .u8 (m.x3 : Int), .int .u8 (m.x4 : Int), .int .u8 (m.x5 : Int), .int .u8 (m.x6 : Int), .int .u8 (m.x7 : Int)] 22)
      have HM2 : Hid ((wr.alloc (.cells #[.int .u8 (m.x0 : Int), .int .u8 (m.x1 : Int), .int .u8 (m.x2 : Int), .int .u8 (m.x3 : Int), .int .u8 (m.x4 : Int), .int .u8 (m.x5 : Int), .int .u8 (m.x6 : Int), .int .u8 (m.x7 : Int)] 22)).heap[wr.heap.size]? = some (.cells #[.int .u8 (m.x0 : Int), .int .u8 (m.x1 : Int), .int .u8 (m.x2 : Int), .int .u8 (m.x3 : Int), .int .u8 (m.x4 : Int), .int .u8 (m.x5 : Int), .int .u8 (m.x6 : Int), .int .u8 (m.x7 : Int)] 22 (0, 0))) := heap_alloc_new wr _
      have HT2 := Lib.hid (HT.out.below hb2); have Hw2' := Lib.hid (Hw.out.trans (hb2.mono Hw.out.size)); have HQ2 := Lib.hid (block_below HQ.out hb2 (block_lt HQ.out)); have HR2 := Lib.hid ((HR.out.below hb2 (Nat.le_refl _)).more hb2.size)
      have HAp2 : Hid (Apt (wr.alloc (.cells #[.int .u8 (m.x0 : Int), .int .u8 (m.x1 : Int), .int .u8 (m.x2 : Int), .int .u8 (m.x3 : Int), .int .u8 (m.x4 : Int), .int .u8 (m.x5 : Int), .int .u8 (m.x6 : Int), .int .u8 (m.x7 : Int)] 22)) A2 F' T0 T1 bd) := Lib.hid fun ad e => ⟨Nat.lt_of_lt_of_le (HAp.out ad e).1 hb2.size, (HAp.out ad e).2⟩
      have Hf := Lib.hid (fun z (hz : foot F' T0 T1 z) => HT.out.lt z hz)
      have hmq : bd < wr.heap.size := block_lt HQ.out
      have hn2 : n2 ≤ 1000 := by
        have h1 := HR.out.dlenD
        obtain ⟨B, _, ra⟩ := HT.out.at_
        have h2 := ra.ok.2.2.2.2
        have h3 := (pow_le8 ra.ok.2.1).2
        omega
      go_upto_region 10 with fail
      generalize wr.alloc (.cells #[.int .u8 (m.x0 : Int), .int .u8 (m.x1 : Int), .int .u8 (m.x2 : Int), .int .u8 (m.x3 : Int), .int .u8 (m.x4 : Int), .int .u8 (m.x5 : Int), .int .u8 (m.x6 : Int), .int .u8 (m.x7 : Int)] 22) = v2 at *
      generalize wr.heap.size = bm at *
      clear y0 y1 y2 y3 y4 y5 y6 y7 HT HQ HR HAp Hw hb2
      have hlm := block_lt HM2.out
      obtain ⟨zf, y0, y1, y2, y3, y4, y5, y6, y7⟩ := free8 HM2.out
      clear zf
      go_wp2_with fail
      refine (held_reserve m HT2.out Hq.out).mono ?_
      rintro e v3 ⟨rfl, hc3, hh3⟩
      have HT3 := Lib.hid hh3
      have HM3 := Lib.hid ((hc3.block _ hlm (fun hf => by have := (Hf.out _ (.inl hf)).2; omega)).trans HM2.out)
      have HQ3' := Lib.hid ((hc3.block _ (block_lt HQ2.out) (fun hf => by have := (Hf.out _ (.inl hf)).1; omega)).trans HQ2.out)
      have HR3 := Lib.hid ((rd_other HR2.out (fun ad e => hc3.block _ (HAp2.out ad e).1 (fun hf => (HAp2.out ad e).2.2 (.inl hf)))).more hc3.size)
      have HAp3 : Hid (Apt v3 A2 (more F' v2 v3) T0 T1 bd) := Lib.hid fun ad e => ⟨Nat.lt_of_lt_of_le (HAp2.out ad e).1 hc3.size, (HAp2.out ad e).2.1, by
        rintro ((h1 | h1) | h1)
        · exact (HAp2.out ad e).2.2 (.inl h1)
        · have := (HAp2.out ad e).1; omega
        · exact (HAp2.out ad e).2.2 (.inr h1)⟩
      have Hw3' := Lib.hid (Hw2'.out.trans (hc3.below (fun z hz => Nat.le_trans HW.out (Hf.out z (.inl hz)).1) Hw2'.out.size))
      clear hc3 hh3 y0 y1 y2 y3 y4 y5 y6 y7 HT2 HM2 HQ2 HR2 HAp2 Hw2' hlm
      have hlm := block_lt HM3.out; have hlq := block_lt HQ3'.out
      obtain ⟨zf, y0, y1, y2, y3, y4, y5, y6, y7⟩ := free8 HM3.out
      obtain ⟨zg, z0, z1, z2, z3, z4, z5, z6, z7, z8, z9⟩ := free10 HQ3'.out
      clear zf
      go_wp2_with fail
      refine (reserver_any a q A2 n2 c2 rx.led m v3 HR3.out hn2 (by omega)).mono ?_
      rintro e v4 ⟨A4, n4, c4, rfl, hr4, hb4, hf4⟩
      rw [Hrk.out] at hr4 ⊢
      have HQ4 := Lib.hid (block_below HQ3'.out hb4 hlq); have HT4 := Lib.hid (HT3.out.below hb4); have Hw4 := Lib.hid (Hw3'.out.trans (hb4.mono Hw3'.out.size))
      have HAp4 : Hid (Apt v4 A4 (more F' v2 v3) T0 T1 bd) := Lib.hid fun ad e => by
        rcases hf4 with h1 | h1
        · subst h1
          exact ⟨Nat.lt_of_lt_of_le (HAp3.out ad e).1 hb4.size, (HAp3.out ad e).2⟩
        · obtain ⟨h2, h3⟩ := h1 ad e
          exact ⟨h3, by omega, fun h4 => by have := (HT3.out.lt _ h4).2; omega⟩
      have HR4 := Lib.hid hr4
      clear zg z0 z1 z2 z3 z4 z5 z6 z7 z8 z9 y0 y1 y2 y3 y4 y5 y6 y7 hr4 hb4 hf4 HM3 HQ3' HR3 HAp3 HT3 Hw3' hlm hlq
      have Hfa := Lib.hid (HT4.out.lt)
      obtain ⟨zg, z0, z1, z2, z3, z4, z5, z6, z7, z8, z9⟩ := free10 HQ4.out
      have hlq := block_lt HQ4.out
      have h10 := set10 HQ4.out (.int .u8 (a.x0 : Int)) (.int .u8 (a.x1 : Int)) (.int .u8 (a.x2 : Int)) (.int .u8 (a.x3 : Int)) (.int .u8 (a.x4 : Int)) (.int .u8 (a.x5 : Int)) (.int .u8 (a.x6 : Int)) (.int .u8 (a.x7 : Int)) (.int .i64 (q : Int)) (.slice A4 n4 c4)
      have hg10 := grown_set10 v4 bd (.int .u8 (a.x0 : Int)) (.int .u8 (a.x1 : Int)) (.int .u8 (a.x2 : Int)) (.int .u8 (a.x3 : Int)) (.int .u8 (a.x4 : Int)) (.int .u8 (a.x5 : Int)) (.int .u8 (a.x6 : Int)) (.int .u8 (a.x7 : Int)) (.int .i64 (q : Int)) (.slice A4 n4 c4)
      go_upto_region 12 with fail
      have HQ5 := Lib.hid h10
      have HT5 := Lib.hid (HT4.out.other (Chg.of_grown (F := fun z => z = bd) hg10 rfl) (fun z hz hf => by have := (Hfa.out z hf).1; subst hz; omega))
      have HR5 := Lib.hid ((rd_other HR4.out (fun ad e => hg10.block _ (HAp4.out ad e).1 (by intro e2; injection e2 with e2; exact (HAp4.out ad e).2.1 e2))).more hg10.size)
      have HAp5 : Hid (Apt ((((((((((v4.setCell ⟨bd, 0, none⟩ (.int .u8 (a.x0 : Int))).setCell ⟨bd, 1, none⟩ (.int .u8 (a.x1 : Int))).setCell ⟨bd, 2, none⟩ (.int .u8 (a.x2 : Int))).setCell ⟨bd, 3, none⟩ (.int .u8 (a.x3 : Int))).setCell ⟨bd, 4, none⟩ (.int .u8 (a.x4 : Int))).setCell ⟨bd, 5, none⟩ (.int .u8 (a.x5 : Int))).setCell ⟨bd, 6, none⟩ (.int .u8 (a.x6 : Int))).setCell ⟨bd, 7, none⟩ (.int .u8 (a.x7 : Int))).setCell ⟨bd, 8, none⟩ (.int .i64 (q : Int))).setCell ⟨bd, 9, none⟩ (.slice A4 n4 c4)) A4 (more F' v2 v3) T0 T1 bd) := Lib.hid fun ad e => ⟨Nat.lt_of_lt_of_le (HAp4.out ad e).1 hg10.size, (HAp4.out ad e).2⟩
      have Hw5 := Lib.hid (Hw4.out.grown hg10 Hw4.out.size (fun z hz => by injection hz with hz; omega))
      generalize ((((((((((v4.setCell ⟨bd, 0, none⟩ (.int .u8 (a.x0 : Int))).setCell ⟨bd, 1, none⟩ (.int .u8 (a.x1 : Int))).setCell ⟨bd, 2, none⟩ (.int .u8 (a.x2 : Int))).setCell ⟨bd, 3, none⟩ (.int .u8 (a.x3 : Int))).setCell ⟨bd, 4, none⟩ (.int .u8 (a.x4 : Int))).setCell ⟨bd, 5, none⟩ (.int .u8 (a.x5 : Int))).setCell ⟨bd, 6, none⟩ (.int .u8 (a.x6 : Int))).setCell ⟨bd, 7, none⟩ (.int .u8 (a.x7 : Int))).setCell ⟨bd, 8, none⟩ (.int .i64 (q : Int))).setCell ⟨bd, 9, none⟩ (.slice A4 n4 c4)) = v5 at *
      clear zg z0 z1 z2 z3 z4 z5 z6 z7 z8 z9 h10 hg10 hlq HQ4 HT4 HR4 HAp4 Hw4
      rw [← Hs1.out] at HT5 HR5
      go_wp2
      go_roundw
      case rel => exact ⟨k + 1, _, A4, n4, c4, Hk.out, by go_num, HT5.out, HQ5.out, HR5.out, HAp5.out, Hw5.out⟩
      case measure => have := Hk.out; simp [RowKit.intOf]; omega
    · obtain rfl : k = n := by omega
      have hd2 : decide ((k : Int) < (k : Int)) = false := by simp
      have htk : l.take k = l := List.take_of_length_le (by rw [Hl.out]; exact Nat.le_refl _)
      rw [htk] at HT HR Hrk
      clear hlt hk htk Hx0 HAp
      generalize x0.resAll l = rx at *
      obtain ⟨B0, hB0, hra⟩ := HT.out.at_
      have Hrok := Lib.hid hra.ok
      have hn2 : n2 ≤ 256 := by
        have h1 := HR.out.dlenD
        have h2 := hra.ok.2.2.2.2
        have h3 := (pow_le8 hra.ok.2.1).2
        omega
      have HSV : Hid (∀ u, Below wr.heap.size wr u → Calls Try.prog 14 #[.pointer (some ⟨bx, 0, none⟩)] u (GivesB u (saveB rx))) := Lib.hid fun u hu => save_any (hra.below hu)
      have HSR : Hid (∀ u, Below wr.heap.size wr u → Calls Try.prog 15 #[.agg #[.int .u8 (a.x0 : Int), .int .u8 (a.x1 : Int), .int .u8 (a.x2 : Int), .int .u8 (a.x3 : Int), .int .u8 (a.x4 : Int), .int .u8 (a.x5 : Int), .int .u8 (a.x6 : Int), .int .u8 (a.x7 : Int), .int .i64 (q : Int), (.slice A2 n2 c2)]] u (GivesB u (saveB rx))) := Lib.hid fun u hu => by
        have h1 := saver_any a q A2 n2 c2 rx.led u ((HR.out.below hu (Nat.le_refl _)).more hu.size) hn2 (by omega)
        rw [Hrk.out] at h1
        exact h1
      have HS1 : Hid (∀ (u : World) (A1 : Option Addr) (n1 c1 : Nat) (A2 : Option Addr) (n2 c2 : Nat), Rd u u.heap.size 1 A1 n1 (bv (saveB rx)) → Rd u u.heap.size 1 A2 n2 (bv (saveB rx)) → Calls Try.prog 11 #[.slice A1 n1 c1, .slice A2 n2 c2] u fun e w' => e = .returned (.bool true) ∧ Below u.heap.size u w') := Lib.hid fun u A1 n1 c1 A2 n2 c2 h1 h2 => by
        have h3 := lsame_any A1 A2 n1 c1 n2 c2 (saveB rx) (saveB rx) u h1 h2 (saveB_lt Hrok.out) (saveB_lt Hrok.out)
        rw [sameB_yes rfl] at h3
        exact h3
      clear hra hB0 Hrk
      have hlq := block_lt HQ.out
      have hRG : ∀ w', Below wr.heap.size wr w' → w'.heap[bd]? = some (.cells #[.int .u8 (a.x0 : Int), .int .u8 (a.x1 : Int), .int .u8 (a.x2 : Int), .int .u8 (a.x3 : Int), .int .u8 (a.x4 : Int), .int .u8 (a.x5 : Int), .int .u8 (a.x6 : Int), .int .u8 (a.x7 : Int), .int .i64 (q : Int), (.slice A2 n2 c2)] 39 (0, 0)) := fun w' hx => block_below HQ.out hx hlq
      have hbd := (Below.refl wr.heap.size wr).drew
      have Hbd := Lib.hid hbd
      go_upto_region 13 with fail
      go_cut [71] (fun s71 wx => s71 = .bool false ∧ Below wr.heap.size wr wx)
      case first =>
        refine wp_region_held_drew (S := fun w' => Below wr.heap.size wr w') (by kernel_rfl) hbd (fun hHeld => ?_)
        rw [show Array.replicate _ false = (#[false, false, false, false, false, false] : Array Bool) from rfl]
        refine takeH 0 (some 66) (v := ?_) rfl (by kernel_rfl) (by kernel_rfl) (by kernel_rfl) (by kernel_rfl) (fun _ _ _ h => h) (Or.inl ⟨by kernel_rfl, ?hy⟩) (by assumption) ?_
        case hy =>
          intro w' hSw
          clear hSw
          first
            | (go_simp; done)
            | (go_simp; with_reducible rfl)
        simp only [Act.put, List.setIfInBounds_toArray, List.set_cons_zero, List.set_cons_succ]
        refine takeH 2 (some 68) (v := ?_) rfl (by kernel_rfl) (by kernel_rfl) (by kernel_rfl) (by kernel_rfl) (fun _ _ _ h => h) (Or.inl ⟨by kernel_rfl, ?hy⟩) (by assumption) ?_
        case hy =>
          intro w' hSw
          obtain ⟨xf, x0, x1, x2, x3, x4, x5, x6, x7, x8, x9⟩ := free10 (hRG w' hSw)
          have hxl := block_lt (hRG w' hSw)
          clear xf hSw
          first
            | (go_simp; done)
            | (go_simp; with_reducible rfl)
        simp only [Act.put, List.setIfInBounds_toArray, List.set_cons_zero, List.set_cons_succ]
        clear hRG hbd
        refine wpAnyH_ready (rs := [1]) (by kernel_rfl) (by simp) ?_
        refine AllReadyH.cons rfl (fun K hK => ?_) AllReadyH.nil
        rw [if_pos (by kernel_rfl)]
        go_simp
        refine (HSV.out wr.drew Hbd.out).mono ?_
        rintro e u1 ⟨A1, n1, c1, rfl, ho1, hn1, hb1⟩
        have HO1 := Lib.hid (Rd.of_own ho1); have Hb1 := Lib.hid (Hbd.out.trans (hb1.mono Hbd.out.size))
        clear ho1 hn1 hb1
        refine hK.out _ _ Hb1.out (fun _ => ?_)
        clear hK K
        simp only [List.setIfInBounds_toArray, List.set_cons_zero, List.set_cons_succ]
        refine wpAnyH_ready (rs := [3]) (by kernel_rfl) (by simp) ?_
        refine AllReadyH.cons rfl (fun K hK => ?_) AllReadyH.nil
        rw [if_pos (by kernel_rfl)]
        go_simp
        refine (HSR.out u1 Hb1.out).mono ?_
        rintro e u2 ⟨A3, n3, c3, rfl, ho2, hn2', hb2⟩
        have HO2 := Lib.hid (Rd.of_own ho2); have Hb2 := Lib.hid (Hb1.out.trans (hb2.mono Hb1.out.size)); have HO1' := Lib.hid ((HO1.out.below hb2 (Nat.le_refl _)).more hb2.size)
        clear ho2 hn2' hb2
        refine hK.out _ _ Hb2.out (fun _ => ?_)
        clear hK K
        simp only [List.setIfInBounds_toArray, List.set_cons_zero, List.set_cons_succ]
        refine wpAnyH_ready (rs := [4]) (by kernel_rfl) (by simp) ?_
        refine AllReadyH.cons rfl (fun K hK => ?_) AllReadyH.nil
        rw [if_pos (by kernel_rfl)]
        go_simp
        refine (HS1.out u2 A1 n1 c1 A3 n3 c3 HO1'.out HO2.out).mono ?_
        rintro e u3 ⟨rfl, hb3⟩
        have Hb3 := Lib.hid (Hb2.out.trans (hb3.mono Hb2.out.size))
        clear hb3
        refine hK.out _ _ Hb3.out (fun _ => ?_)
        clear hK K
        simp only [List.setIfInBounds_toArray, List.set_cons_zero, List.set_cons_succ]
        refine takeH 5 (some 71) (v := ?_) rfl (by kernel_rfl) (by kernel_rfl) (by kernel_rfl) (by kernel_rfl) (fun _ _ _ h => h) (Or.inl ⟨by kernel_rfl, ?hy⟩) (by assumption) ?_
        case hy =>
          intro w' hSw
          clear hSw
          first
            | (go_simp; done)
            | (go_simp; with_reducible rfl)
        simp only [Act.put, List.setIfInBounds_toArray, List.set_cons_zero, List.set_cons_succ]
        refine wpAnyH_done (by kernel_rfl) ?_ _
        go_wp2
        go_meet
        exact ⟨rfl, Hb3.out⟩
      case rest =>
        obtain ⟨rfl, hwc⟩ := hcut
        obtain ⟨u5, rfl⟩ : ∃ u5 : World, u5 = wc := ⟨_, rfl⟩
        have Hw5 := Lib.hid (Hw.out.trans (hwc.mono Hw.out.size))
        have HRb := Lib.hid (fun (u : World) (hb : Below w.heap.size w u) => (Hr'.out.below hb (Nat.le_refl _)).more hb.size)
        clear hwc HSV HSR HS1 HT HQ HR hRG hbd Hbd Hw hlq
        go_wp2_with fail
        refine (open_any A' n' c' b u5 (HRb.out u5 Hw5.out) (by omega) Hb.out).mono ?_
        intro e u6 hop
        unfold GivesO at hop
        have hopr := fun (u : World) (hb : Below w.heap.size w u) => openr_any A' n' c' b u (HRb.out u hb) hnc' (by omega) Hb.out
        have hso : ∀ r, (openN b).1 = some r → saveB r = b := fun r hr => save_open Hb.out hr
        have herr : (openN b).1 = none → (openN b).2 ≠ 0 := openN_err
        unfold GivesOR at hopr
        generalize openN b = z at *
        obtain ⟨zo, er⟩ := z
        simp only at hop hopr hso herr
        have Hopr := Lib.hid hopr; have Hso := Lib.hid hso
        clear hopr hso
        cases zo with
        | none =>
          obtain ⟨hb6, rfl⟩ := hop
          have her : er ≠ 0 := herr rfl
          have b1 : (er == 0) = false := by simpa using her
          have b2 : decide (er = 0) = false := decide_eq_false her
          have Hw6 := Lib.hid (Hw5.out.trans (hb6.mono Hw5.out.size))
          clear hb6 herr her Hw5
          go_wp2_with fail
          refine (Hopr.out u6 Hw6.out).mono ?_
          rintro e u7 ⟨hb7, rfl⟩
          unfold rgZ
          have Hw7 := Lib.hid (Hw6.out.trans (hb7.mono Hw6.out.size))
          have Hw8 := Lib.hid (Hw7.out.alloc Hw7.out.size (.cells #[.int .u8 0, .int .u8 0, .int .u8 0, .int .u8 0, .int .u8 0, .int .u8 0, .int .u8 0, .int .u8 0, .int .i64 0, .slice none 0 0] 39))
          clear hb7 Hw6 Hopr
          go_upto_region 17 with fail
          generalize u7.alloc (.cells #[.int .u8 0, .int .u8 0, .int .u8 0, .int .u8 0, .int .u8 0, .int .u8 0, .int .u8 0, .int .u8 0, .int .i64 0, .slice none 0 0] 39) = u8 at *
          clear Hw7
          have hbd := (Below.refl u8.heap.size u8).drew
          go_upto_region 19 with fail
          refine wp_region_held_drew (S := fun w' => Below u8.heap.size u8 w') (by kernel_rfl) hbd (fun hHeld => ?_)
          rw [show Array.replicate _ false = (#[false, false, false, false, false, false, false, false, false, false, false, false, false, false, false, false, false, false, false, false, false] : Array Bool) from rfl]
          refine takeH 0 (some 92) (v := ?_) rfl (by kernel_rfl) (by kernel_rfl) (by kernel_rfl) (by kernel_rfl) (fun _ _ _ h => h) (Or.inl ⟨by kernel_rfl, ?hy⟩) (by assumption) ?_
          case hy =>
            intro w' hSw
            clear hSw
            first
              | (go_simp; done)
              | (go_simp; with_reducible rfl)
          simp only [Act.put, List.setIfInBounds_toArray, List.set_cons_zero, List.set_cons_succ]
          refine takeH 1 (some 93) (v := ?_) rfl (by kernel_rfl) (by kernel_rfl) (by kernel_rfl) (by kernel_rfl) (fun _ _ _ h => h) (Or.inl ⟨by kernel_rfl, ?hy⟩) (by assumption) ?_
          case hy =>
            intro w' hSw
            clear hSw
            first
              | (go_simp; done)
              | (go_simp; with_reducible rfl)
          simp only [Act.put, List.setIfInBounds_toArray, List.set_cons_zero, List.set_cons_succ]
          refine takeH 2 (some 94) (v := ?_) rfl (by kernel_rfl) (by kernel_rfl) (by kernel_rfl) (by kernel_rfl) (fun _ _ _ h => h) (Or.inl ⟨by kernel_rfl, ?hy⟩) (by assumption) ?_
          case hy =>
            intro w' hSw
            clear hSw
            first
              | (go_simp; done)
              | (go_simp; with_reducible rfl)
          simp only [Act.put, List.setIfInBounds_toArray, List.set_cons_zero, List.set_cons_succ]
          refine takeH 3 (some 95) (v := undef) rfl (by kernel_rfl) (by kernel_rfl) (by kernel_rfl) (by kernel_rfl) (fun _ _ _ h => h) (Or.inr ⟨by kernel_rfl, rfl⟩) (by assumption) ?_
          simp only [Act.put, List.setIfInBounds_toArray, List.set_cons_zero, List.set_cons_succ]
          refine takeH 4 (some 96) (v := undef) rfl (by kernel_rfl) (by kernel_rfl) (by kernel_rfl) (by kernel_rfl) (fun _ _ _ h => h) (Or.inr ⟨by kernel_rfl, rfl⟩) (by assumption) ?_
          simp only [Act.put, List.setIfInBounds_toArray, List.set_cons_zero, List.set_cons_succ]
          refine takeH 5 (some 97) (v := undef) rfl (by kernel_rfl) (by kernel_rfl) (by kernel_rfl) (by kernel_rfl) (fun _ _ _ h => h) (Or.inr ⟨by kernel_rfl, rfl⟩) (by assumption) ?_
          simp only [Act.put, List.setIfInBounds_toArray, List.set_cons_zero, List.set_cons_succ]
          refine takeH 6 (some 98) (v := undef) rfl (by kernel_rfl) (by kernel_rfl) (by kernel_rfl) (by kernel_rfl) (fun _ _ _ h => h) (Or.inr ⟨by kernel_rfl, rfl⟩) (by assumption) ?_
          simp only [Act.put, List.setIfInBounds_toArray, List.set_cons_zero, List.set_cons_succ]
          refine takeH 7 (some 99) (v := undef) rfl (by kernel_rfl) (by kernel_rfl) (by kernel_rfl) (by kernel_rfl) (fun _ _ _ h => h) (Or.inr ⟨by kernel_rfl, rfl⟩) (by assumption) ?_
          simp only [Act.put, List.setIfInBounds_toArray, List.set_cons_zero, List.set_cons_succ]
          refine takeH 8 (some 100) (v := undef) rfl (by kernel_rfl) (by kernel_rfl) (by kernel_rfl) (by kernel_rfl) (fun _ _ _ h => h) (Or.inr ⟨by kernel_rfl, rfl⟩) (by assumption) ?_
          simp only [Act.put, List.setIfInBounds_toArray, List.set_cons_zero, List.set_cons_succ]
          refine takeH 9 (some 101) (v := undef) rfl (by kernel_rfl) (by kernel_rfl) (by kernel_rfl) (by kernel_rfl) (fun _ _ _ h => h) (Or.inr ⟨by kernel_rfl, rfl⟩) (by assumption) ?_
          simp only [Act.put, List.setIfInBounds_toArray, List.set_cons_zero, List.set_cons_succ]
          refine takeH 10 (some 102) (v := undef) rfl (by kernel_rfl) (by kernel_rfl) (by kernel_rfl) (by kernel_rfl) (fun _ _ _ h => h) (Or.inr ⟨by kernel_rfl, rfl⟩) (by assumption) ?_
          simp only [Act.put, List.setIfInBounds_toArray, List.set_cons_zero, List.set_cons_succ]
          refine takeH 11 (some 103) (v := undef) rfl (by kernel_rfl) (by kernel_rfl) (by kernel_rfl) (by kernel_rfl) (fun _ _ _ h => h) (Or.inr ⟨by kernel_rfl, rfl⟩) (by assumption) ?_
          simp only [Act.put, List.setIfInBounds_toArray, List.set_cons_zero, List.set_cons_succ]
          refine takeH 12 (some 104) (v := undef) rfl (by kernel_rfl) (by kernel_rfl) (by kernel_rfl) (by kernel_rfl) (fun _ _ _ h => h) (Or.inr ⟨by kernel_rfl, rfl⟩) (by assumption) ?_
          simp only [Act.put, List.setIfInBounds_toArray, List.set_cons_zero, List.set_cons_succ]
          refine takeH 13 (some 105) (v := undef) rfl (by kernel_rfl) (by kernel_rfl) (by kernel_rfl) (by kernel_rfl) (fun _ _ _ h => h) (Or.inr ⟨by kernel_rfl, rfl⟩) (by assumption) ?_
          simp only [Act.put, List.setIfInBounds_toArray, List.set_cons_zero, List.set_cons_succ]
          refine takeH 14 (some 106) (v := undef) rfl (by kernel_rfl) (by kernel_rfl) (by kernel_rfl) (by kernel_rfl) (fun _ _ _ h => h) (Or.inr ⟨by kernel_rfl, rfl⟩) (by assumption) ?_
          simp only [Act.put, List.setIfInBounds_toArray, List.set_cons_zero, List.set_cons_succ]
          refine takeH 15 (some 107) (v := undef) rfl (by kernel_rfl) (by kernel_rfl) (by kernel_rfl) (by kernel_rfl) (fun _ _ _ h => h) (Or.inr ⟨by kernel_rfl, rfl⟩) (by assumption) ?_
          simp only [Act.put, List.setIfInBounds_toArray, List.set_cons_zero, List.set_cons_succ]
          refine takeH 16 (some 108) (v := undef) rfl (by kernel_rfl) (by kernel_rfl) (by kernel_rfl) (by kernel_rfl) (fun _ _ _ h => h) (Or.inr ⟨by kernel_rfl, rfl⟩) (by assumption) ?_
          simp only [Act.put, List.setIfInBounds_toArray, List.set_cons_zero, List.set_cons_succ]
          refine takeH 17 (some 109) (v := undef) rfl (by kernel_rfl) (by kernel_rfl) (by kernel_rfl) (by kernel_rfl) (fun _ _ _ h => h) (Or.inr ⟨by kernel_rfl, rfl⟩) (by assumption) ?_
          simp only [Act.put, List.setIfInBounds_toArray, List.set_cons_zero, List.set_cons_succ]
          refine takeH 18 (some 110) (v := undef) rfl (by kernel_rfl) (by kernel_rfl) (by kernel_rfl) (by kernel_rfl) (fun _ _ _ h => h) (Or.inr ⟨by kernel_rfl, rfl⟩) (by assumption) ?_
          simp only [Act.put, List.setIfInBounds_toArray, List.set_cons_zero, List.set_cons_succ]
          refine takeH 19 (some 111) (v := ?_) rfl (by kernel_rfl) (by kernel_rfl) (by kernel_rfl) (by kernel_rfl) (fun _ _ _ h => h) (Or.inl ⟨by kernel_rfl, ?hy⟩) (by assumption) ?_
          case hy =>
            intro w' hSw
            clear hSw
            first
              | (go_simp; done)
              | (go_simp; with_reducible rfl)
          simp only [Act.put, List.setIfInBounds_toArray, List.set_cons_zero, List.set_cons_succ]
          refine takeH 20 (some 8) (v := ?_) rfl (by kernel_rfl) (by kernel_rfl) (by kernel_rfl) (by kernel_rfl) (fun _ _ _ h => h) (Or.inl ⟨by kernel_rfl, ?hy⟩) (by assumption) ?_
          case hy =>
            intro w' hSw
            clear hSw
            first
              | (go_simp; done)
              | (go_simp; with_reducible rfl)
          simp only [Act.put, List.setIfInBounds_toArray, List.set_cons_zero, List.set_cons_succ]
          refine wpAnyH_done (by kernel_rfl) ?_ _
          go_wp2
          go_ret
          exact ⟨rfl, Hw8.out.drew⟩
        | some r =>
          obtain ⟨hb6, bo, Fo, O0, O1, rfl, ho6⟩ := hop
          have Hw6 := Lib.hid (Hw5.out.trans (hb6.mono Hw5.out.size)); have HO6 := Lib.hid ho6
          have hsb := Hso.out r rfl
          have Hsb := Lib.hid hsb
          clear hb6 herr hsb Hso Hw5 ho6
          go_wp2_with fail
          refine (Hopr.out u6 Hw6.out).mono ?_
          rintro e u7 ⟨hb7, A9, n9, c9, rfl, hr9⟩
          have Hw7 := Lib.hid (Hw6.out.trans (hb7.mono Hw6.out.size)); have HO7 := Lib.hid (HO6.out.below hb7); have HR7 := Lib.hid hr9
          clear hb7 hr9 HO6 Hw6 Hopr
          have HQ8 : Hid ((u7.alloc (.cells #[.int .u8 (r.secret.x0 : Int), .int .u8 (r.secret.x1 : Int), .int .u8 (r.secret.x2 : Int), .int .u8 (r.secret.x3 : Int), .int .u8 (r.secret.x4 : Int), .int .u8 (r.secret.x5 : Int), .int .u8 (r.secret.x6 : Int), .int .u8 (r.secret.x7 : Int), .int .i64 (r.h : Int), (.slice A9 n9 c9)] 39)).heap[u7.heap.size]? = some (.cells #[.int .u8 (r.secret.x0 : Int), .int .u8 (r.secret.x1 : Int), .int .u8 (r.secret.x2 : Int), .int .u8 (r.secret.x3 : Int), .int .u8 (r.secret.x4 : Int), .int .u8 (r.secret.x5 : Int), .int .u8 (r.secret.x6 : Int), .int .u8 (r.secret.x7 : Int), .int .i64 (r.h : Int), (.slice A9 n9 c9)] 39 (0, 0))) := heap_alloc_new u7 _
          have hb8 := h_one u7 (.cells #[.int .u8 (r.secret.x0 : Int), .int .u8 (r.secret.x1 : Int), .int .u8 (r.secret.x2 : Int), .int .u8 (r.secret.x3 : Int), .int .u8 (r.secret.x4 : Int), .int .u8 (r.secret.x5 : Int), .int .u8 (r.secret.x6 : Int), .int .u8 (r.secret.x7 : Int), .int .i64 (r.h : Int), (.slice A9 n9 c9)] 39)
          have Hw8 := Lib.hid (Hw7.out.trans (hb8.mono Hw7.out.size)); have HO8 := Lib.hid (HO7.out.below hb8); have HR8 := Lib.hid ((HR7.out.below hb8 (Nat.le_refl _)).more hb8.size)
          clear hb8
          go_upto_region 17 with fail
          generalize u7.alloc (.cells #[.int .u8 (r.secret.x0 : Int), .int .u8 (r.secret.x1 : Int), .int .u8 (r.secret.x2 : Int), .int .u8 (r.secret.x3 : Int), .int .u8 (r.secret.x4 : Int), .int .u8 (r.secret.x5 : Int), .int .u8 (r.secret.x6 : Int), .int .u8 (r.secret.x7 : Int), .int .i64 (r.h : Int), (.slice A9 n9 c9)] 39) = u8 at *
          clear HO7 HR7 Hw7
          generalize u7.heap.size = bw at *
          have Hrok2 := Lib.hid HO8.out.ok
          have hn9 : n9 ≤ 256 := by
            have h1 := HR8.out.dlenD
            have h2 := Hrok2.out.2.2.2.2
            have h3 := (pow_le8 Hrok2.out.2.1).2
            omega
          have HSV : Hid (∀ u, Below u8.heap.size u8 u → Calls Try.prog 14 #[.pointer (some ⟨bo, 0, none⟩)] u (GivesB u (saveB r))) := Lib.hid fun u hu => save_any (HO8.out.below hu)
          have HSR : Hid (∀ u, Below u8.heap.size u8 u → Calls Try.prog 15 #[.agg #[.int .u8 (r.secret.x0 : Int), .int .u8 (r.secret.x1 : Int), .int .u8 (r.secret.x2 : Int), .int .u8 (r.secret.x3 : Int), .int .u8 (r.secret.x4 : Int), .int .u8 (r.secret.x5 : Int), .int .u8 (r.secret.x6 : Int), .int .u8 (r.secret.x7 : Int), .int .i64 (r.h : Int), (.slice A9 n9 c9)]] u (GivesB u (saveB r))) := Lib.hid fun u hu => saver_any r.secret r.h A9 n9 c9 r.led u ((HR8.out.below hu (Nat.le_refl _)).more hu.size) hn9 Hrok2.out.2.1
          have HS1 : Hid (∀ (u : World) (A1 : Option Addr) (n1 c1 : Nat) (A2 : Option Addr) (n2 c2 : Nat), Rd u u.heap.size 1 A1 n1 (bv (saveB r)) → Rd u u.heap.size 1 A2 n2 (bv (saveB r)) → Calls Try.prog 11 #[.slice A1 n1 c1, .slice A2 n2 c2] u fun e w' => e = .returned (.bool true) ∧ Below u.heap.size u w') := Lib.hid fun u A1 n1 c1 A2 n2 c2 h1 h2 => by
            have h3 := lsame_any A1 A2 n1 c1 n2 c2 (saveB r) (saveB r) u h1 h2 (saveB_lt Hrok2.out) (saveB_lt Hrok2.out)
            rw [sameB_yes rfl] at h3
            exact h3
          have HS2 : Hid (∀ (u : World) (A1 : Option Addr) (n1 c1 : Nat), Below u8.heap.size u8 u → Rd u u.heap.size 1 A1 n1 (bv (saveB r)) → Calls Try.prog 11 #[.slice A1 n1 c1, .slice A' n' c'] u fun e w' => e = .returned (.bool true) ∧ Below u.heap.size u w') := Lib.hid fun u A1 n1 c1 hu h1 => by
            have h3 := lsame_any A1 A' n1 c1 n' c' (saveB r) b u h1 (HRb.out u (Hw8.out.trans (hu.mono Hw8.out.size))) (saveB_lt Hrok2.out) Hb.out
            rw [sameB_yes Hsb.out] at h3
            exact h3
          have HTD : Hid (∀ u, Below u8.heap.size u8 u → Calls Try.prog 18 #[.pointer (some ⟨bo, 0, none⟩), .agg #[.int .u8 (r.secret.x0 : Int), .int .u8 (r.secret.x1 : Int), .int .u8 (r.secret.x2 : Int), .int .u8 (r.secret.x3 : Int), .int .u8 (r.secret.x4 : Int), .int .u8 (r.secret.x5 : Int), .int .u8 (r.secret.x6 : Int), .int .u8 (r.secret.x7 : Int), .int .i64 (r.h : Int), (.slice A9 n9 c9)]] u fun e w' => e = .returned (.bool true) ∧ Below u.heap.size u w') := Lib.hid fun u hu => toldl_yes (HO8.out.below hu) r.secret A9 n9 c9 ((HR8.out.below hu (Nat.le_refl _)).more hu.size)
          have hlq := block_lt HQ8.out
          have hRG : ∀ w', Below u8.heap.size u8 w' → w'.heap[bw]? = some (.cells #[.int .u8 (r.secret.x0 : Int), .int .u8 (r.secret.x1 : Int), .int .u8 (r.secret.x2 : Int), .int .u8 (r.secret.x3 : Int), .int .u8 (r.secret.x4 : Int), .int .u8 (r.secret.x5 : Int), .int .u8 (r.secret.x6 : Int), .int .u8 (r.secret.x7 : Int), .int .i64 (r.h : Int), (.slice A9 n9 c9)] 39 (0, 0)) := fun w' hx => block_below HQ8.out hx hlq
          have hbd := (Below.refl u8.heap.size u8).drew
          have Hbd := Lib.hid hbd
          clear HO8 HR8 hn9
          go_upto_region 19 with fail
          refine wp_region_held_drew (S := fun w' => Below u8.heap.size u8 w') (by kernel_rfl) hbd (fun hHeld => ?_)
          rw [show Array.replicate _ false = (#[false, false, false, false, false, false, false, false, false, false, false, false, false, false, false, false, false, false, false, false, false] : Array Bool) from rfl]
          refine takeH 0 (some 92) (v := ?_) rfl (by kernel_rfl) (by kernel_rfl) (by kernel_rfl) (by kernel_rfl) (fun _ _ _ h => h) (Or.inl ⟨by kernel_rfl, ?hy⟩) (by assumption) ?_
          case hy =>
            intro w' hSw
            clear hSw
            first
              | (go_simp; done)
              | (go_simp; with_reducible rfl)
          simp only [Act.put, List.setIfInBounds_toArray, List.set_cons_zero, List.set_cons_succ]
          refine takeH 1 (some 93) (v := ?_) rfl (by kernel_rfl) (by kernel_rfl) (by kernel_rfl) (by kernel_rfl) (fun _ _ _ h => h) (Or.inl ⟨by kernel_rfl, ?hy⟩) (by assumption) ?_
          case hy =>
            intro w' hSw
            clear hSw
            first
              | (go_simp; done)
              | (go_simp; with_reducible rfl)
          simp only [Act.put, List.setIfInBounds_toArray, List.set_cons_zero, List.set_cons_succ]
          refine takeH 2 (some 94) (v := ?_) rfl (by kernel_rfl) (by kernel_rfl) (by kernel_rfl) (by kernel_rfl) (fun _ _ _ h => h) (Or.inl ⟨by kernel_rfl, ?hy⟩) (by assumption) ?_
          case hy =>
            intro w' hSw
            clear hSw
            first
              | (go_simp; done)
              | (go_simp; with_reducible rfl)
          simp only [Act.put, List.setIfInBounds_toArray, List.set_cons_zero, List.set_cons_succ]
          refine takeH 3 (some 95) (v := ?_) rfl (by kernel_rfl) (by kernel_rfl) (by kernel_rfl) (by kernel_rfl) (fun _ _ _ h => h) (Or.inl ⟨by kernel_rfl, ?hy⟩) (by assumption) ?_
          case hy =>
            intro w' hSw
            clear hSw
            first
              | (go_simp; done)
              | (go_simp; with_reducible rfl)
          simp only [Act.put, List.setIfInBounds_toArray, List.set_cons_zero, List.set_cons_succ]
          refine takeH 5 (some 97) (v := ?_) rfl (by kernel_rfl) (by kernel_rfl) (by kernel_rfl) (by kernel_rfl) (fun _ _ _ h => h) (Or.inl ⟨by kernel_rfl, ?hy⟩) (by assumption) ?_
          case hy =>
            intro w' hSw
            obtain ⟨xf, x0, x1, x2, x3, x4, x5, x6, x7, x8, x9⟩ := free10 (hRG w' hSw)
            have hxl := block_lt (hRG w' hSw)
            clear xf hSw
            first
              | (go_simp; done)
              | (go_simp; with_reducible rfl)
          simp only [Act.put, List.setIfInBounds_toArray, List.set_cons_zero, List.set_cons_succ]
          clear hbd
          refine wpAnyH_ready (rs := [4]) (by kernel_rfl) (by simp) ?_
          refine AllReadyH.cons rfl (fun K hK => ?_) AllReadyH.nil
          rw [if_pos (by kernel_rfl)]
          go_simp
          refine (HSV.out u8.drew Hbd.out).mono ?_
          rintro e u1 ⟨A1, n1, c1, rfl, ho1, hn1, hb1⟩
          have HO1 := Lib.hid (Rd.of_own ho1); have Hb1 := Lib.hid (Hbd.out.trans (hb1.mono Hbd.out.size))
          clear ho1 hn1 hb1
          refine hK.out _ _ Hb1.out (fun _ => ?_)
          clear hK K
          simp only [List.setIfInBounds_toArray, List.set_cons_zero, List.set_cons_succ]
          refine wpAnyH_ready (rs := [6]) (by kernel_rfl) (by simp) ?_
          refine AllReadyH.cons rfl (fun K hK => ?_) AllReadyH.nil
          rw [if_pos (by kernel_rfl)]
          go_simp
          refine (HSR.out u1 Hb1.out).mono ?_
          rintro e u2 ⟨A3, n3, c3, rfl, ho2, hn2', hb2⟩
          have HO2 := Lib.hid (Rd.of_own ho2); have Hb2 := Lib.hid (Hb1.out.trans (hb2.mono Hb1.out.size)); have HO1' := Lib.hid ((HO1.out.below hb2 (Nat.le_refl _)).more hb2.size)
          clear ho2 hn2' hb2
          refine hK.out _ _ Hb2.out (fun _ => ?_)
          clear hK K
          simp only [List.setIfInBounds_toArray, List.set_cons_zero, List.set_cons_succ]
          refine wpAnyH_ready (rs := [7]) (by kernel_rfl) (by simp) ?_
          refine AllReadyH.cons rfl (fun K hK => ?_) AllReadyH.nil
          rw [if_pos (by kernel_rfl)]
          go_simp
          refine (HS1.out u2 A1 n1 c1 A3 n3 c3 HO1'.out HO2.out).mono ?_
          rintro e u3 ⟨rfl, hb3⟩
          have Hb3 := Lib.hid (Hb2.out.trans (hb3.mono Hb2.out.size))
          clear hb3
          refine hK.out _ _ Hb3.out (fun _ => ?_)
          clear hK K
          simp only [List.setIfInBounds_toArray, List.set_cons_zero, List.set_cons_succ]
          have hS3 := Hb3.out
          refine takeH 8 (some 100) (v := ?_) rfl (by kernel_rfl) (by kernel_rfl) (by kernel_rfl) (by kernel_rfl) (fun _ _ _ h => h) (Or.inl ⟨by kernel_rfl, ?hy⟩) (by assumption) ?_
          case hy =>
            intro w' hSw
            clear hSw
            first
              | (go_simp; done)
              | (go_simp; with_reducible rfl)
          simp only [Act.put, List.setIfInBounds_toArray, List.set_cons_zero, List.set_cons_succ]
          refine takeH 9 (some 101) (v := ?_) rfl (by kernel_rfl) (by kernel_rfl) (by kernel_rfl) (by kernel_rfl) (fun _ _ _ h => h) (Or.inl ⟨by kernel_rfl, ?hy⟩) (by assumption) ?_
          case hy =>
            intro w' hSw
            clear hSw
            first
              | (go_simp; done)
              | (go_simp; with_reducible rfl)
          simp only [Act.put, List.setIfInBounds_toArray, List.set_cons_zero, List.set_cons_succ]
          refine takeH 11 (some 103) (v := ?_) rfl (by kernel_rfl) (by kernel_rfl) (by kernel_rfl) (by kernel_rfl) (fun _ _ _ h => h) (Or.inl ⟨by kernel_rfl, ?hy⟩) (by assumption) ?_
          case hy =>
            intro w' hSw
            clear hSw
            first
              | (go_simp; done)
              | (go_simp; with_reducible rfl)
          simp only [Act.put, List.setIfInBounds_toArray, List.set_cons_zero, List.set_cons_succ]
          clear hS3
          refine wpAnyH_ready (rs := [10]) (by kernel_rfl) (by simp) ?_
          refine AllReadyH.cons rfl (fun K hK => ?_) AllReadyH.nil
          rw [if_pos (by kernel_rfl)]
          go_simp
          refine (HSV.out u3 Hb3.out).mono ?_
          rintro e u4 ⟨A4, n4, c4, rfl, ho4, hn4, hb4⟩
          have HO4 := Lib.hid (Rd.of_own ho4); have Hb4 := Lib.hid (Hb3.out.trans (hb4.mono Hb3.out.size))
          clear ho4 hn4 hb4
          refine hK.out _ _ Hb4.out (fun _ => ?_)
          clear hK K
          simp only [List.setIfInBounds_toArray, List.set_cons_zero, List.set_cons_succ]
          refine wpAnyH_ready (rs := [12]) (by kernel_rfl) (by simp) ?_
          refine AllReadyH.cons rfl (fun K hK => ?_) AllReadyH.nil
          rw [if_pos (by kernel_rfl)]
          go_simp
          refine (HS2.out u4 A4 n4 c4 Hb4.out HO4.out).mono ?_
          rintro e u5 ⟨rfl, hb5⟩
          have Hb5 := Lib.hid (Hb4.out.trans (hb5.mono Hb4.out.size))
          clear hb5
          refine hK.out _ _ Hb5.out (fun _ => ?_)
          clear hK K
          simp only [List.setIfInBounds_toArray, List.set_cons_zero, List.set_cons_succ]
          have hS5 := Hb5.out
          refine takeH 13 (some 105) (v := ?_) rfl (by kernel_rfl) (by kernel_rfl) (by kernel_rfl) (by kernel_rfl) (fun _ _ _ h => h) (Or.inl ⟨by kernel_rfl, ?hy⟩) (by assumption) ?_
          case hy =>
            intro w' hSw
            clear hSw
            first
              | (go_simp; done)
              | (go_simp; with_reducible rfl)
          simp only [Act.put, List.setIfInBounds_toArray, List.set_cons_zero, List.set_cons_succ]
          refine takeH 14 (some 106) (v := ?_) rfl (by kernel_rfl) (by kernel_rfl) (by kernel_rfl) (by kernel_rfl) (fun _ _ _ h => h) (Or.inl ⟨by kernel_rfl, ?hy⟩) (by assumption) ?_
          case hy =>
            intro w' hSw
            clear hSw
            first
              | (go_simp; done)
              | (go_simp; with_reducible rfl)
          simp only [Act.put, List.setIfInBounds_toArray, List.set_cons_zero, List.set_cons_succ]
          refine takeH 15 (some 107) (v := ?_) rfl (by kernel_rfl) (by kernel_rfl) (by kernel_rfl) (by kernel_rfl) (fun _ _ _ h => h) (Or.inl ⟨by kernel_rfl, ?hy⟩) (by assumption) ?_
          case hy =>
            intro w' hSw
            clear hSw
            first
              | (go_simp; done)
              | (go_simp; with_reducible rfl)
          simp only [Act.put, List.setIfInBounds_toArray, List.set_cons_zero, List.set_cons_succ]
          refine takeH 16 (some 108) (v := ?_) rfl (by kernel_rfl) (by kernel_rfl) (by kernel_rfl) (by kernel_rfl) (fun _ _ _ h => h) (Or.inl ⟨by kernel_rfl, ?hy⟩) (by assumption) ?_
          case hy =>
            intro w' hSw
            obtain ⟨xf, x0, x1, x2, x3, x4, x5, x6, x7, x8, x9⟩ := free10 (hRG w' hSw)
            have hxl := block_lt (hRG w' hSw)
            clear xf hSw
            first
              | (go_simp; done)
              | (go_simp; with_reducible rfl)
          simp only [Act.put, List.setIfInBounds_toArray, List.set_cons_zero, List.set_cons_succ]
          clear hS5
          refine wpAnyH_ready (rs := [17]) (by kernel_rfl) (by simp) ?_
          refine AllReadyH.cons rfl (fun K hK => ?_) AllReadyH.nil
          rw [if_pos (by kernel_rfl)]
          go_simp
          refine (HTD.out u5 Hb5.out).mono ?_
          rintro e u6 ⟨rfl, hb6⟩
          have Hb6 := Lib.hid (Hb5.out.trans (hb6.mono Hb5.out.size))
          clear hb6
          refine hK.out _ _ Hb6.out (fun _ => ?_)
          clear hK K
          simp only [List.setIfInBounds_toArray, List.set_cons_zero, List.set_cons_succ]
          have hS6 := Hb6.out
          refine takeH 18 (some 110) (v := ?_) rfl (by kernel_rfl) (by kernel_rfl) (by kernel_rfl) (by kernel_rfl) (fun _ _ _ h => h) (Or.inl ⟨by kernel_rfl, ?hy⟩) (by assumption) ?_
          case hy =>
            intro w' hSw
            clear hSw
            first
              | (go_simp; done)
              | (go_simp; with_reducible rfl)
          simp only [Act.put, List.setIfInBounds_toArray, List.set_cons_zero, List.set_cons_succ]
          refine takeH 19 (some 111) (v := ?_) rfl (by kernel_rfl) (by kernel_rfl) (by kernel_rfl) (by kernel_rfl) (fun _ _ _ h => h) (Or.inl ⟨by kernel_rfl, ?hy⟩) (by assumption) ?_
          case hy =>
            intro w' hSw
            clear hSw
            first
              | (go_simp; done)
              | (go_simp; with_reducible rfl)
          simp only [Act.put, List.setIfInBounds_toArray, List.set_cons_zero, List.set_cons_succ]
          refine takeH 20 (some 8) (v := ?_) rfl (by kernel_rfl) (by kernel_rfl) (by kernel_rfl) (by kernel_rfl) (fun _ _ _ h => h) (Or.inl ⟨by kernel_rfl, ?hy⟩) (by assumption) ?_
          case hy =>
            intro w' hSw
            clear hSw
            first
              | (go_simp; done)
              | (go_simp; with_reducible rfl)
          simp only [Act.put, List.setIfInBounds_toArray, List.set_cons_zero, List.set_cons_succ]
          refine wpAnyH_done (by kernel_rfl) ?_ _
          clear hS6
          go_wp2
          go_ret
          exact ⟨rfl, Hw8.out.trans (Hb6.out.mono Hw8.out.size)⟩
end Go.Proofs.Ytmpklplojfjfbaa
