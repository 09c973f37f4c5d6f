/- The walks of transactions: what is wrong, the bytes, the example. Conditions: bounds on how many bytes. -/
import Derived.Test.YtebepgoaofhelaaTxA
namespace Go.Proofs.Ytebepgoaofhelaa
open Go.RowKit Go.Lib


def inT (no fe ki n n' : Int) : Bool := upB no 1099511627776 && upB fe 1125899906842624 && upB ki 2 && upB n 32768 && upB n' 1024
def checkT (no fe ki : Int) (bo si : List Nat) : Int := if inT no fe ki bo.length si.length then (if ki = 0 then (paidT ki bo).2.2 else 0) else 2
theorem check_out {no fe ki : Int} {bo si : List Nat} (h : inT no fe ki bo.length si.length = false) : checkT no fe ki bo si = 2 := by simp [checkT, h]
set_option maxRecDepth 100000 in
set_option maxHeartbeats 1000000 in
theorem check_any (t : TxV) (w : World) (h : t.At w) : Calls Try.prog 18 #[.agg #[.int .u8 (t.d.x0 : Int), .int .u8 (t.d.x1 : Int), .int .u8 (t.d.x2 : Int), .int .u8 (t.d.x3 : Int), .int .u8 (t.d.x4 : Int), .int .u8 (t.d.x5 : Int), .int .u8 (t.d.x6 : Int), .int .u8 (t.d.x7 : Int), .int .i64 t.no, .int .i64 t.fe, .int .i64 t.ki, .slice t.A t.n t.c, .slice t.A' t.n' t.c']] w fun e w' => e = .returned (.int .i64 (checkT t.no t.fe t.ki t.bo t.si)) ∧ Below w.heap.size w w' := by
  have H := Lib.hid h
  clear h
  by_cases q1 : upB t.no 1099511627776 = false
  ·
    have Hr : Hid (checkT t.no t.fe t.ki t.bo t.si = 2) := check_out (by unfold inT; rw [H.out.len1, H.out.len2]; simp [*])
    go_enter Try.func18, Try.ntmps18
    go_wp2_with (go_at_call 43; refine (upTo_any _ _ _).mono ?_; rintro e w' ⟨rfl, rfl⟩)
    go_ret
    exact ⟨by rw [Hr.out]; rfl, below_one _ _⟩
  replace q1 : upB t.no 1099511627776 = true := by simpa using q1
  by_cases q2 : upB t.fe 1125899906842624 = false
  ·
    have Hr : Hid (checkT t.no t.fe t.ki t.bo t.si = 2) := check_out (by unfold inT; rw [H.out.len1, H.out.len2]; simp [*])
    go_enter Try.func18, Try.ntmps18
    go_wp2_with (go_at_call 43; refine (upTo_any _ _ _).mono ?_; rintro e w' ⟨rfl, rfl⟩)
    go_ret
    exact ⟨by rw [Hr.out]; rfl, below_one _ _⟩
  replace q2 : upB t.fe 1125899906842624 = true := by simpa using q2
  by_cases q3 : upB t.ki 2 = false
  ·
    have Hr : Hid (checkT t.no t.fe t.ki t.bo t.si = 2) := check_out (by unfold inT; rw [H.out.len1, H.out.len2]; simp [*])
    go_enter Try.func18, Try.ntmps18
    go_wp2_with (go_at_call 43; refine (upTo_any _ _ _).mono ?_; rintro e w' ⟨rfl, rfl⟩)
    go_ret
    exact ⟨by rw [Hr.out]; rfl, below_one _ _⟩
  replace q3 : upB t.ki 2 = true := by simpa using q3
  by_cases q4 : upB (t.n : Int) 32768 = false
  ·
    have Hr : Hid (checkT t.no t.fe t.ki t.bo t.si = 2) := check_out (by unfold inT; rw [H.out.len1, H.out.len2]; simp [*])
    go_enter Try.func18, Try.ntmps18
    go_wp2_with (go_at_call 43; refine (upTo_any _ _ _).mono ?_; rintro e w' ⟨rfl, rfl⟩)
    go_ret
    exact ⟨by rw [Hr.out]; rfl, below_one _ _⟩
  replace q4 : upB (t.n : Int) 32768 = true := by simpa using q4
  by_cases q5 : upB (t.n' : Int) 1024 = false
  ·
    have Hr : Hid (checkT t.no t.fe t.ki t.bo t.si = 2) := check_out (by unfold inT; rw [H.out.len1, H.out.len2]; simp [*])
    go_enter Try.func18, Try.ntmps18
    go_wp2_with (go_at_call 43; refine (upTo_any _ _ _).mono ?_; rintro e w' ⟨rfl, rfl⟩)
    go_ret
    exact ⟨by rw [Hr.out]; rfl, below_one _ _⟩
  replace q5 : upB (t.n' : Int) 1024 = true := by simpa using q5
  have hin : inT t.no t.fe t.ki t.bo.length t.si.length = true := by unfold inT; rw [H.out.len1, H.out.len2]; simp [*]
  by_cases hk : t.ki = 0
  · have Hr : Hid (checkT t.no t.fe t.ki t.bo t.si = (paidT t.ki t.bo).2.2) := by show _ = _; unfold checkT; rw [hin, if_pos rfl, if_pos hk]
    have b1 : (t.ki == 0) = true := by simpa using hk
    clear hk hin
    go_enter Try.func18, Try.ntmps18
    go_wp2_with (first
      | (go_at_call 43; refine (upTo_any _ _ _).mono ?_; rintro e w' ⟨rfl, rfl⟩)
      | (go_at_call 11; refine (paid_any t _ (H.out.up (below_one _ _))).mono ?_; rintro e w1 ⟨rfl, hb1⟩; have Hb1 := Lib.hid hb1; clear hb1))
    go_ret
    exact ⟨by rw [Hr.out]; rfl, ((below_one w _).trans (Hb1.out.mono (by simp))).alloc (by have := Hb1.out.size; simp at this; omega) _⟩
  · have Hr : Hid (checkT t.no t.fe t.ki t.bo t.si = 0) := by show _ = _; unfold checkT; rw [hin, if_pos rfl, if_neg hk]
    have b1 : (t.ki == 0) = false := by simpa using hk
    clear hk hin
    go_enter Try.func18, Try.ntmps18
    go_wp2_with (go_at_call 43; refine (upTo_any _ _ _).mono ?_; rintro e w' ⟨rfl, rfl⟩)
    go_ret
    exact ⟨by rw [Hr.out]; rfl, below_one _ _⟩
theorem putNum_at (A : Option Addr) (n c : Nat) (m : Int) (l : List Nat) (w : World) (hr : Rd w w.heap.size 1 A n (bv l)) (hn : n ≤ 900000000) (hm : 0 ≤ m) (hm2 : m < 18446744073709551616) :
    Calls Try.prog 39 #[.slice A n c, .int .u64 m] w (GivesB w (l ++ encN m.toNat)) := by
  obtain ⟨k, rfl⟩ := Int.eq_ofNat_of_zero_le hm
  exact putNum_any A n c k l w hr hn (by omega)
theorem wrapU (x : Int) : 0 ≤ IntKind.u64.wrap x ∧ IntKind.u64.wrap x < 18446744073709551616 := by rw [IntKind.wrap_u64]; omega
def u64N (x : Int) : Nat := (IntKind.u64.wrap x).toNat
theorem u64N_in {x : Int} (h : 0 ≤ x) (h2 : x < 18446744073709551616) : u64N x = x.toNat := by unfold u64N; rw [IntKind.wrap_u64]; omega
/-- The bytes up to the signature's; all bytes. -/
def headT (d : D8) (no fe ki : Int) (bo : List Nat) : List Nat := encN (u64N ki) ++ encN d.num ++ encN (u64N no) ++ encN (u64N fe) ++ encB bo
def bytesT (d : D8) (no fe ki : Int) (bo si : List Nat) : List Nat := headT d no fe ki bo ++ encB si
theorem encB_len (l : List Nat) : (encB l).length ≤ 11 + l.length := by unfold encB; rw [List.length_append]; have := encN_len l.length; omega
theorem headT_len (d : D8) (no fe ki : Int) (bo : List Nat) : (headT d no fe ki bo).length ≤ 55 + bo.length := by
  unfold headT
  simp only [List.length_append]
  have := encN_len (u64N ki); have := encN_len d.num; have := encN_len (u64N no); have := encN_len (u64N fe); have := encB_len bo
  omega
theorem GivesB.rd {w w' : World} {l : List Nat} {A : Option Addr} {n c : Nat} (h : w'.ownsRow w.heap.size 5 1 (.slice A n c) n (bv l)) : Rd w' w'.heap.size 1 A n (bv l) := Rd.of_own h
/-- The transaction's box. -/
def Box (t : TxV) (w : World) (b : Nat) : Prop := w.heap[b]? = some (.cells #[.int .u8 (t.d.x0 : Int), .int .u8 (t.d.x1 : Int), .int .u8 (t.d.x2 : Int), .int .u8 (t.d.x3 : Int), .int .u8 (t.d.x4 : Int), .int .u8 (t.d.x5 : Int), .int .u8 (t.d.x6 : Int), .int .u8 (t.d.x7 : Int), .int .i64 t.no, .int .i64 t.fe, .int .i64 t.ki, .slice t.A t.n t.c, .slice t.A' t.n' t.c'] 26 (0, 0))
theorem Box.all {t : TxV} {w : World} {b : Nat} (h : Box t w b) :
    w.cell? ⟨b, 0, none⟩ = some (.int .u8 (t.d.x0 : Int)) ∧ w.cell? ⟨b, 1, none⟩ = some (.int .u8 (t.d.x1 : Int)) ∧ w.cell? ⟨b, 2, none⟩ = some (.int .u8 (t.d.x2 : Int)) ∧ w.cell? ⟨b, 3, none⟩ = some (.int .u8 (t.d.x3 : Int)) ∧
    w.cell? ⟨b, 4, none⟩ = some (.int .u8 (t.d.x4 : Int)) ∧ w.cell? ⟨b, 5, none⟩ = some (.int .u8 (t.d.x5 : Int)) ∧ w.cell? ⟨b, 6, none⟩ = some (.int .u8 (t.d.x6 : Int)) ∧ w.cell? ⟨b, 7, none⟩ = some (.int .u8 (t.d.x7 : Int)) ∧
    w.cell? ⟨b, 8, none⟩ = some (.int .i64 t.no) ∧ w.cell? ⟨b, 9, none⟩ = some (.int .i64 t.fe) ∧ w.cell? ⟨b, 10, none⟩ = some (.int .i64 t.ki) ∧ w.cell? ⟨b, 11, none⟩ = some (.slice t.A t.n t.c) ∧ w.cell? ⟨b, 12, none⟩ = some (.slice t.A' t.n' t.c') :=
  ⟨block_cell h 0, block_cell h 1, block_cell h 2, block_cell h 3, block_cell h 4, block_cell h 5, block_cell h 6, block_cell h 7, block_cell h 8, block_cell h 9, block_cell h 10, block_cell h 11, block_cell h 12⟩
theorem Box.below {t : TxV} {w w' : World} {b : Nat} (h : Box t w b) (hb : Below w.heap.size w w') : Box t w' b := block_below h hb (block_lt h)
theorem Box.new (t : TxV) (w : World) : Box t (w.alloc (.cells #[.int .u8 (t.d.x0 : Int), .int .u8 (t.d.x1 : Int), .int .u8 (t.d.x2 : Int), .int .u8 (t.d.x3 : Int), .int .u8 (t.d.x4 : Int), .int .u8 (t.d.x5 : Int), .int .u8 (t.d.x6 : Int), .int .u8 (t.d.x7 : Int), .int .i64 t.no, .int .i64 t.fe, .int .i64 t.ki, .slice t.A t.n t.c, .slice t.A' t.n' t.c'] 26)) w.heap.size := heap_alloc_new w _
set_option maxRecDepth 100000 in
set_option maxHeartbeats 2000000 in
theorem unsigned_any (t : TxV) (w : World) (h : t.At w) : Calls Try.prog 54 #[.agg #[.int .u8 (t.d.x0 : Int), .int .u8 (t.d.x1 : Int), .int .u8 (t.d.x2 : Int), .int .u8 (t.d.x3 : Int), .int .u8 (t.d.x4 : Int), .int .u8 (t.d.x5 : Int), .int .u8 (t.d.x6 : Int), .int .u8 (t.d.x7 : Int), .int .i64 t.no, .int .i64 t.fe, .int .i64 t.ki, .slice t.A t.n t.c, .slice t.A' t.n' t.c']] w (GivesB w (headT t.d t.no t.fe t.ki t.bo)) := by
  have H := Lib.hid (h.up (below_one w (.cells #[.int .u8 (t.d.x0 : Int), .int .u8 (t.d.x1 : Int), .int .u8 (t.d.x2 : Int), .int .u8 (t.d.x3 : Int), .int .u8 (t.d.x4 : Int), .int .u8 (t.d.x5 : Int), .int .u8 (t.d.x6 : Int), .int .u8 (t.d.x7 : Int), .int .i64 t.no, .int .i64 t.fe, .int .i64 t.ki, .slice t.A t.n t.c, .slice t.A' t.n' t.c'] 26)))
  have HB := Lib.hid (Box.new t w)
  have Hd := Lib.hid h.ok
  have Hm := Lib.hid h.m1
  clear h
  go_enter Try.func54, Try.ntmps54
  go_wp2_with fail
  refine (putNum_at none 0 0 _ [] _ Rd.empty (by omega) (wrapU _).1 (wrapU _).2).mono ?_
  rintro e w1 ⟨A1, n1, c1, rfl, ho1, hn1, hb1⟩
  have HB1 := Lib.hid (HB.out.below hb1)
  have H1 := Lib.hid (H.out.up hb1)
  have Hw1 := Lib.hid ((below_one w _).trans (hb1.mono (by simp)))
  have Hr1 := Lib.hid (Rd.of_own ho1)
  have hl1 : n1 ≤ 11 := by rw [hn1]; exact encN_len _
  clear hb1 ho1 hn1
  obtain ⟨y0, y1, y2, y3, y4, y5, y6, y7, y8, y9, y10, y11, y12⟩ := HB1.out.all
  go_wp2_with fail
  refine (hnum_any t.d _ Hd.out).mono ?_
  rintro e w2 ⟨rfl, hb2⟩
  have HB2 := Lib.hid (HB1.out.below hb2)
  have H2 := Lib.hid (H1.out.up hb2)
  have Hw2 := Lib.hid (Hw1.out.trans (hb2.mono Hw1.out.size))
  have Hr2 := Lib.hid (Hr1.out.up hb2 (Nat.le_refl _))
  clear hb2 y0 y1 y2 y3 y4 y5 y6 y7 y8 y9 y10 y11 y12
  go_wp2_with fail
  refine (putNum_at A1 n1 c1 _ _ _ Hr2.out (by omega) (by omega) (by have := D8.num_lt Hd.out; omega)).mono ?_
  rintro e w3 ⟨A3, n3, c3, rfl, ho3, hn3, hb3⟩
  have HB3 := Lib.hid (HB2.out.below hb3)
  have H3 := Lib.hid (H2.out.up hb3)
  have Hw3 := Lib.hid (Hw2.out.trans (hb3.mono Hw2.out.size))
  have Hr3 := Lib.hid (Rd.of_own ho3)
  rw [Int.toNat_natCast] at Hr3 hn3
  have hl3 : n3 ≤ 22 := by rw [hn3, List.length_append]; have := encN_len t.d.num; have := encN_len (u64N t.ki); have h5 := Hr1.out.blen; rw [h5]; omega
  clear hb3 ho3 hn3
  obtain ⟨y0, y1, y2, y3, y4, y5, y6, y7, y8, y9, y10, y11, y12⟩ := HB3.out.all
  go_wp2_with fail
  refine (putNum_at A3 n3 c3 _ _ _ Hr3.out (by omega) (wrapU _).1 (wrapU _).2).mono ?_
  rintro e w4 ⟨A4, n4, c4, rfl, ho4, hn4, hb4⟩
  have HB4 := Lib.hid (HB3.out.below hb4)
  have H4 := Lib.hid (H3.out.up hb4)
  have Hw4 := Lib.hid (Hw3.out.trans (hb4.mono Hw3.out.size))
  have Hr4 := Lib.hid (Rd.of_own ho4)
  have hl4 : n4 ≤ 33 := by rw [hn4, List.length_append]; have := encN_len (IntKind.u64.wrap t.no).toNat; have h5 := Hr3.out.blen; rw [h5]; omega
  clear hb4 ho4 hn4 y0 y1 y2 y3 y4 y5 y6 y7 y8 y9 y10 y11 y12
  obtain ⟨y0, y1, y2, y3, y4, y5, y6, y7, y8, y9, y10, y11, y12⟩ := HB4.out.all
  go_wp2_with fail
  refine (putNum_at A4 n4 c4 _ _ _ Hr4.out (by omega) (wrapU _).1 (wrapU _).2).mono ?_
  rintro e w5 ⟨A5, n5, c5, rfl, ho5, hn5, hb5⟩
  have HB5 := Lib.hid (HB4.out.below hb5)
  have H5 := Lib.hid (H4.out.up hb5)
  have Hw5 := Lib.hid (Hw4.out.trans (hb5.mono Hw4.out.size))
  have Hr5 := Lib.hid (Rd.of_own ho5)
  have hl5 : n5 ≤ 44 := by rw [hn5, List.length_append]; have := encN_len (IntKind.u64.wrap t.fe).toNat; have h5 := Hr4.out.blen; rw [h5]; omega
  clear hb5 ho5 hn5 y0 y1 y2 y3 y4 y5 y6 y7 y8 y9 y10 y11 y12
  obtain ⟨y0, y1, y2, y3, y4, y5, y6, y7, y8, y9, y10, y11, y12⟩ := HB5.out.all
  go_wp2_with fail
  refine (putBytes_any A5 t.A n5 c5 t.n t.c _ _ _ Hr5.out (by omega) H5.out.r1 (by have := Hm.out; omega)).mono ?_
  rintro e w6 ⟨A6, n6, c6, rfl, ho6, hn6, hb6⟩
  have Ho6 := Lib.hid (own_down ho6 Hw5.out.size)
  have Hn6 := Lib.hid hn6
  have Hw6 := Lib.hid (Hw5.out.trans (hb6.mono Hw5.out.size))
  clear ho6 hn6 hb6
  go_wp2
  go_ret
  exact ⟨A6, n6, c6, rfl, by simpa [headT, u64N] using Ho6.out, by simpa [headT, u64N] using Hn6.out, Hw6.out⟩
def headT_ok (t : TxV) : Prop := t.n ≤ 100000000 ∧ t.n' ≤ 100000000 ∧ t.bo.length = t.n
theorem headT_ok.le {t : TxV} (h : headT_ok t) : (headT t.d t.no t.fe t.ki t.bo).length ≤ 200000000 := by
  have := headT_len t.d t.no t.fe t.ki t.bo
  have := h.1
  have := h.2.2
  omega
set_option maxRecDepth 100000 in
set_option maxHeartbeats 2000000 in
theorem tbytes_any (t : TxV) (w : World) (h : t.At w) : Calls Try.prog 44 #[.agg #[.int .u8 (t.d.x0 : Int), .int .u8 (t.d.x1 : Int), .int .u8 (t.d.x2 : Int), .int .u8 (t.d.x3 : Int), .int .u8 (t.d.x4 : Int), .int .u8 (t.d.x5 : Int), .int .u8 (t.d.x6 : Int), .int .u8 (t.d.x7 : Int), .int .i64 t.no, .int .i64 t.fe, .int .i64 t.ki, .slice t.A t.n t.c, .slice t.A' t.n' t.c']] w (GivesB w (bytesT t.d t.no t.fe t.ki t.bo t.si)) := by
  have H := Lib.hid (h.up (below_one w (.cells #[.int .u8 (t.d.x0 : Int), .int .u8 (t.d.x1 : Int), .int .u8 (t.d.x2 : Int), .int .u8 (t.d.x3 : Int), .int .u8 (t.d.x4 : Int), .int .u8 (t.d.x5 : Int), .int .u8 (t.d.x6 : Int), .int .u8 (t.d.x7 : Int), .int .i64 t.no, .int .i64 t.fe, .int .i64 t.ki, .slice t.A t.n t.c, .slice t.A' t.n' t.c'] 26)))
  have HB := Lib.hid (Box.new t w)
  have Hm := Lib.hid (show headT_ok t from ⟨h.m1, h.m2, h.len1⟩)
  clear h
  go_enter Try.func44, Try.ntmps44
  go_wp2
  go_region_held3 (fun w' => w'.cell? ⟨w.heap.size, 0, none⟩ = some (.int .u8 (t.d.x0 : Int)) ∧ w'.cell? ⟨w.heap.size, 1, none⟩ = some (.int .u8 (t.d.x1 : Int)) ∧ w'.cell? ⟨w.heap.size, 2, none⟩ = some (.int .u8 (t.d.x2 : Int)) ∧ w'.cell? ⟨w.heap.size, 3, none⟩ = some (.int .u8 (t.d.x3 : Int)) ∧ w'.cell? ⟨w.heap.size, 4, none⟩ = some (.int .u8 (t.d.x4 : Int)) ∧ w'.cell? ⟨w.heap.size, 5, none⟩ = some (.int .u8 (t.d.x5 : Int)) ∧ w'.cell? ⟨w.heap.size, 6, none⟩ = some (.int .u8 (t.d.x6 : Int)) ∧ w'.cell? ⟨w.heap.size, 7, none⟩ = some (.int .u8 (t.d.x7 : Int)) ∧ w'.cell? ⟨w.heap.size, 8, none⟩ = some (.int .i64 t.no) ∧ w'.cell? ⟨w.heap.size, 9, none⟩ = some (.int .i64 t.fe) ∧ w'.cell? ⟨w.heap.size, 10, none⟩ = some (.int .i64 t.ki) ∧ w'.cell? ⟨w.heap.size, 11, none⟩ = some (.slice t.A t.n t.c) ∧ w'.cell? ⟨w.heap.size, 12, none⟩ = some (.slice t.A' t.n' t.c')) (first | exact HB.out.all | exact HB1.out.all | exact HB2.out.all | go_keep)
    (first
      | (go_at_call 54; refine (unsigned_any t _ (H.out.up (Below.refl _ _).drew)).mono ?_; rintro e w1 ⟨A1, n1, c1, rfl, ho1, hn1, hb1⟩; have HB1 := Lib.hid (Box.below (w := (w.alloc (.cells #[.int .u8 (t.d.x0 : Int), .int .u8 (t.d.x1 : Int), .int .u8 (t.d.x2 : Int), .int .u8 (t.d.x3 : Int), .int .u8 (t.d.x4 : Int), .int .u8 (t.d.x5 : Int), .int .u8 (t.d.x6 : Int), .int .u8 (t.d.x7 : Int), .int .i64 t.no, .int .i64 t.fe, .int .i64 t.ki, .slice t.A t.n t.c, .slice t.A' t.n' t.c'] 26)).drew) HB.out hb1); have H1 := Lib.hid ((H.out.up (Below.refl _ _).drew).up hb1); have Hw1 := Lib.hid ((below_one w _).drew.trans (hb1.mono (by simp))); have Hr1 := Lib.hid (Rd.of_own ho1); have hl1 : n1 ≤ 200000000 := (hn1 ▸ Hm.out.le); clear hb1 ho1 hn1)
      | (go_at_call 64; refine (putBytes_any A1 t.A' n1 c1 t.n' t.c' _ _ _ Hr1.out (by omega) H1.out.r2 (by have := Hm.out.2.1; omega)).mono ?_; rintro e w2 ⟨A2, n2, c2, rfl, ho2, hn2, hb2⟩; have HB2 := Lib.hid (Box.below HB1.out hb2); have Hw2 := Lib.hid (Hw1.out.trans (hb2.mono Hw1.out.size)); have Ho2 := Lib.hid (own_down ho2 Hw1.out.size); have Hn2 := Lib.hid hn2; clear hb2 ho2 hn2))
  all_goals
    go_wp2
    go_ret
    exact ⟨A2, n2, c2, rfl, Ho2.out, Hn2.out, Hw2.out⟩
end Go.Proofs.Ytebepgoaofhelaa
