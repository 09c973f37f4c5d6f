/- A ring's bytes: the walk of Save. Condition: none. -/
import Derived.Test.YtmpklplojfjfbaaGreatDoorKeZ
namespace Go.Proofs.YtmpklplojfjfbaaGreatDoor
open Go.RowKit Go.Lib



def saveH (r : RingM) : List Nat := encB r.secret.bytes ++ encN r.h ++ encN r.led.length
def saveB (r : RingM) : List Nat := saveH r ++ r.led.flatMap fun d => encB d.bytes
theorem encB_len8 (d : D8) : (encB d.bytes).length ≤ 19 := by
  unfold encB
  rw [List.length_append, bytes_len]
  have := encN_len 8
  omega
theorem flatEB_len (l : List D8) : (l.flatMap fun d => encB d.bytes).length ≤ 19 * l.length := by
  induction l with
  | nil => simp
  | cons d l ih => rw [List.flatMap_cons, List.length_append]; have := encB_len8 d; simp only [List.length_cons]; omega
theorem flatEB_take (l : List D8) {k : Nat} (hk : k < l.length) : ((l.take (k + 1)).flatMap fun d => encB d.bytes) = ((l.take k).flatMap fun d => encB d.bytes) ++ encB (l.getD k D8.zero).bytes := by
  rw [List.take_add_one, List.getElem?_eq_getElem hk, List.flatMap_append]
  simp [List.getD_eq_getElem?_getD, List.getElem?_eq_getElem hk]
theorem saveH_len (r : RingM) : (saveH r).length ≤ 41 := by
  unfold saveH
  rw [List.length_append, List.length_append]
  have := encB_len8 r.secret; have := encN_len r.h; have := encN_len r.led.length
  omega
theorem ring_rd {w : World} {b : Nat} {s : D8} {h : Nat} {pt v : Value} {mb : Nat} (x : w.heap[b]? = some (.cells (ringC s h pt v mb) 91 (0, 0))) : Rd w w.heap.size 1 (some ⟨b, 0, none⟩) 8 (bv s.bytes) := by
  refine ⟨rfl, fun _ => ⟨b, 0, rfl, block_lt x, fun j u hu => ?_⟩⟩
  rw [Nat.zero_add, block_cell x j]
  have hj : j < 8 := (List.getElem?_eq_some_iff.1 hu).1
  have : j = 0 ∨ j = 1 ∨ j = 2 ∨ j = 3 ∨ j = 4 ∨ j = 5 ∨ j = 6 ∨ j = 7 := by omega
  rcases this with rfl | rfl | rfl | rfl | rfl | rfl | rfl | rfl <;> exact hu
set_option maxRecDepth 100000 in
set_option maxHeartbeats 4000000 in
theorem save_any {w : World} {B : Nat} {F : Nat → Prop} {T0 T1 br : Nat} {r : RingM} (a : RingAt w B F T0 T1 br r) :
    Calls Tryz.prog 21 #[.pointer (some ⟨br, 0, none⟩)] w (GivesB w (saveB r)) := by
  obtain ⟨mb, bt, hl, ht⟩ := a.led
  obtain ⟨A, c, hb, ho, _⟩ := hl.cells
  have hok := a.ok
  have hp8 := pow_le8 hok.2.1
  have hlen := hok.2.2.2.2
  have hhh := hok.2.1
  have HBk := Lib.hid hb
  have Hled := Lib.hid (Rd.of_own ho)
  have hbl := block_lt hb
  have HsB : Hid (saveB r = encB r.secret.bytes ++ encN r.h ++ encN r.led.length ++ r.led.flatMap fun d => encB d.bytes) := Lib.hid rfl
  have hwh : IntKind.u64.wrap (r.h : Int) = (r.h : Int) := by rw [IntKind.wrap_u64]; omega
  have hwl : IntKind.u64.wrap (r.led.length : Int) = (r.led.length : Int) := by rw [IntKind.wrap_u64]; omega
  have hl256 : r.led.length ≤ 256 := by omega
  obtain ⟨yf, y0, y1, y2, y3, y4, y5, y6, y7, y8, y9, y10, y11⟩ := freeR hb
  clear a hl ht hb ho hok hp8 hlen y0 y1 y2 y3 y4 y5 y6 y7 y9 y11
  have Hl1 := Lib.hid (encB_len8 r.secret); have Hl2 := Lib.hid (encN_len r.h); have Hl3 := Lib.hid (encN_len r.led.length)
  go_enter Tryz.func21, Tryz.ntmps21
  go_wp2_with fail
  refine (putBytes_any none (some ⟨br, 0, none⟩) 0 0 8 8 [] r.secret.bytes w (rd_nil _ _) (by decide) (ring_rd HBk.out) (by decide)).mono ?_
  rintro e w1 ⟨A1, n1, c1, rfl, ho1, hn1, hb1⟩
  rw [List.nil_append] at ho1 hn1
  have HR1 := Lib.hid (Rd.of_own ho1); have Hn1 := Lib.hid hn1; have Hb1 := Lib.hid hb1; have HB1 := Lib.hid (block_below HBk.out hb1 hbl)
  clear ho1 hn1 hb1 yf y8 y10
  generalize encB r.secret.bytes = q1 at *
  obtain ⟨yf, y0, y1, y2, y3, y4, y5, y6, y7, y8, y9, y10, y11⟩ := freeR HB1.out
  have hbl1 := block_lt HB1.out
  clear y0 y1 y2 y3 y4 y5 y6 y7 y9 y10 y11
  go_wp2_with fail
  refine (putNum_any A1 n1 c1 r.h q1 w1 HR1.out (by have := Hn1.out; have := Hl1.out; omega) (by omega)).mono ?_
  rintro e w2 ⟨A2, n2, c2, rfl, ho2, hn2, hb2⟩
  have HR2 := Lib.hid (Rd.of_own ho2); have Hn2 := Lib.hid hn2; have Hb2 := Lib.hid (Hb1.out.trans (hb2.mono Hb1.out.size)); have HB2 := Lib.hid (block_below HB1.out hb2 hbl1)
  clear ho2 hn2 hb2 yf y8 HR1 Hb1 HB1
  obtain ⟨yf, y0, y1, y2, y3, y4, y5, y6, y7, y8, y9, y10, y11⟩ := freeR HB2.out
  have hbl2 := block_lt HB2.out
  clear y0 y1 y2 y3 y4 y5 y6 y7 y8 y9 y11
  go_wp2_with fail
  refine (putNum_any A2 n2 c2 r.led.length (q1 ++ encN r.h) w2 HR2.out (by have := Hn2.out; rw [List.length_append] at this; have := Hl1.out; have := Hl2.out; omega) (by omega)).mono ?_
  rintro e w3 ⟨A3, n3, c3, rfl, ho3, hn3, hb3⟩
  have HO3 := Lib.hid (own_down ho3 Hb2.out.size); have Hb3 := Lib.hid (Hb2.out.trans (hb3.mono Hb2.out.size)); have HB3 := Lib.hid (block_below HB2.out hb3 hbl2)
  have hn3' : n3 ≤ 41 := by rw [hn3, List.length_append, List.length_append]; have := Hl1.out; have := Hl2.out; have := Hl3.out; omega
  clear ho3 hn3 hb3 yf y10 HR2 Hb2 HB2
  generalize q1 ++ encN r.h ++ encN r.led.length = q3 at *
  obtain ⟨yf, y0, y1, y2, y3, y4, y5, y6, y7, y8, y9, y10, y11⟩ := freeR HB3.out
  have hbl3 := block_lt HB3.out
  clear y0 y1 y2 y3 y4 y5 y6 y7 y8 y9 y11 HB3
  go_wp2
  clear yf y10
  generalize hn : r.led.length = n at *
  have Hln := Lib.hid hn
  clear hn
  go_loopw [33, 3] (fun i s3 wr => ∃ (k : Nat) (A' : Option Addr) (m' c' : Nat), k ≤ n ∧ i = .int .i64 (k : Int) ∧ s3 = .slice A' m' c' ∧ wr.ownsRow w.heap.size 5 1 (.slice A' m' c') m' (bv (q3 ++ (r.led.take k).flatMap fun d => encB d.bytes)) ∧ m' ≤ 41 + 19 * k ∧ Below w.heap.size w wr) (fun i _ _ => n - (RowKit.intOf i).toNat)
  case atStart => exact ⟨0, A3, n3, c3, Nat.zero_le _, rfl, rfl, by rw [List.take_zero, List.flatMap_nil, List.append_nil]; exact HO3.out, by omega, Hb3.out⟩
  case round =>
    obtain ⟨k, A', m', c', hk, rfl, rfl, ho, hm, hb⟩ := hrel
    have HO := Lib.hid ho; have Hb := Lib.hid hb; have Hm := Lib.hid hm
    clear ho hb hm HO3 Hb3
    by_cases hlt : k < n
    · have hd1 : decide ((k : Int) < (n : Int)) = true := decide_eq_true (by omega)
      have hki : (k : Int) < (n : Int) := by omega
      obtain ⟨b, o, rfl, hbB, x0, x1, x2, x3, x4, x5, x6, x7⟩ := (Hled.out.below Hb.out (Nat.le_refl _)).di8 hlt
      have Htk := Lib.hid (flatEB_take r.led (k := k) (by have := Hln.out; omega))
      have He := Lib.hid (encB_len8 (r.led.getD k D8.zero))
      generalize r.led.getD k D8.zero = q at *
      have Hk := Lib.hid hlt
      have hbw : b < wr.heap.size := by have := Hb.out.size; omega
      have HO2 := Lib.hid (HO.out.alloc (.cells #[.int .u8 (q.x0 : Int), .int .u8 (q.x1 : Int), .int .u8 (q.x2 : Int), .int .u8 (q.x3 : Int), .int .u8 (q.x4 : Int), .int .u8 (q.x5 : Int), .int .u8 (q.x6 : Int), .int .u8 (q.x7 : Int)] 38)); have Hb2 := Lib.hid (Hb.out.alloc Hb.out.size (.cells #[.int .u8 (q.x0 : Int), .int .u8 (q.x1 : Int), .int .u8 (q.x2 : Int), .int .u8 (q.x3 : Int), .int .u8 (q.x4 : Int), .int .u8 (q.x5 : Int), .int .u8 (q.x6 : Int), .int .u8 (q.x7 : Int)] 38))
      have HRl := Lib.hid (box_rd wr q 38)
      go_upto_region 9 with fail
      generalize wr.alloc (.cells #[.int .u8 (q.x0 : Int), .int .u8 (q.x1 : Int), .int .u8 (q.x2 : Int), .int .u8 (q.x3 : Int), .int .u8 (q.x4 : Int), .int .u8 (q.x5 : Int), .int .u8 (q.x6 : Int), .int .u8 (q.x7 : Int)] 38) = w5 at *
      clear x0 x1 x2 x3 x4 x5 x6 x7 HO Hb
      go_wp2_with fail
      refine (putBytes_any A' (some ⟨wr.heap.size, 0, none⟩) m' c' 8 8 _ q.bytes w5 (Rd.of_own HO2.out) (by have := Hm.out; omega) HRl.out (by decide)).mono ?_
      rintro e w6 ⟨A6, n6, c6, rfl, ho6, hn6, hb6⟩
      have hn6' : n6 ≤ 41 + 19 * (k + 1) := by
        have h1 := (Rd.of_own HO2.out).blen
        rw [hn6, List.length_append, h1]
        have := He.out; have := Hm.out
        omega
      rw [List.append_assoc, ← Htk.out] at ho6
      have HO6 := Lib.hid (own_down ho6 Hb2.out.size); have Hb6 := Lib.hid (Hb2.out.trans (hb6.mono Hb2.out.size)); have Hn6 := Lib.hid hn6'
      clear ho6 hn6 hb6 hn6' HO2 Hb2
      go_wp2
      go_roundw
      case rel => exact ⟨k + 1, A6, n6, c6, Hk.out, by go_num, rfl, HO6.out, Hn6.out, Hb6.out⟩
      case measure => have := Hk.out; simp [RowKit.intOf]; omega
    · obtain rfl : k = n := by omega
      have hd1 : decide ((k : Int) < (k : Int)) = false := by simp
      have htk : r.led.take k = r.led := List.take_of_length_le (by rw [Hln.out]; exact Nat.le_refl _)
      have ho := HO.out
      rw [htk, ← HsB.out] at ho
      have HOf := Lib.hid ho
      clear hlt hk ho htk
      go_wp2
      go_ret
      exact ⟨A', m', c', rfl, HOf.out, (Rd.of_own HOf.out).blen.symm, Hb.out⟩
end Go.Proofs.YtmpklplojfjfbaaGreatDoor
