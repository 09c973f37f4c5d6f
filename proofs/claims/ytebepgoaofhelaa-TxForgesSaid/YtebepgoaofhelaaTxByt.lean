/- The walk of the statement TxBytes: a transaction's bytes are the document's, and give it back. Condition: what is handed in can be read. -/
import Derived.Test.YtebepgoaofhelaaTxDec
import Derived.Test.YtebepgoaofhelaaTxBack
import Derived.Test.YtebepgoaofhelaaTxHd
import Derived.Test.YtebepgoaofhelaaTxF
namespace Go.Proofs.Ytebepgoaofhelaa
open Go.RowKit Go.Lib

theorem is_self (t : TxV) : t.is ⟨t.d, t.no, t.fe, t.ki, t.bo, t.si⟩ := ⟨rfl, rfl, rfl, rfl, rfl, rfl⟩
theorem bytesT_small {d : D8} {no fe ki : Int} {bo si : List Nat} (hd : d.ok) (hb : ∀ x ∈ bo, x < 256) (hs : ∀ x ∈ si, x < 256) (h1 : bo.length ≤ 100000000) (h2 : si.length ≤ 100000000) : ∀ x ∈ bytesT d no fe ki bo si, x < 256 := by
  intro x hx
  have u1 := wrapU ki; have u2 := wrapU no; have u3 := wrapU fe
  have hn := D8.num_lt hd
  unfold bytesT headT encB at hx
  simp only [List.mem_append] at hx
  rcases hx with ((((hx | hx) | hx) | hx) | hx | hx) | hx | hx
  · exact encN_small (by unfold u64N; omega) x hx
  · exact encN_small hn x hx
  · exact encN_small (by unfold u64N; omega) x hx
  · exact encN_small (by unfold u64N; omega) x hx
  · exact encN_small (by omega) x hx
  · exact hb x hx
  · exact encN_small (by omega) x hx
  · exact hs x hx
set_option maxRecDepth 100000 in
set_option maxHeartbeats 4000000 in
theorem txbytes_any (t : TxV) (w : World) (h : t.In w w.heap.size) :
    Calls Try.prog 7 #[.agg #[.int .u8 (t.d.x0 : Int), .int .u8 (t.d.x1 : Int), .int .u8 (t.d.x2 : Int), .int .u8 (t.d.x3 : Int), .int .u8 (t.d.x4 : Int), .int .u8 (t.d.x5 : Int), .int .u8 (t.d.x6 : Int), .int .u8 (t.d.x7 : Int), .int .i64 t.no, .int .i64 t.fe, .int .i64 t.ki, .slice t.A t.n t.c, .slice t.A' t.n' t.c']] w fun e w' => e = .returned (.bool true) ∧ Below w.heap.size w w' := by
  have H := Lib.hid (h.keep (below_one w (.cells #[.int .u8 (t.d.x0 : Int), .int .u8 (t.d.x1 : Int), .int .u8 (t.d.x2 : Int), .int .u8 (t.d.x3 : Int), .int .u8 (t.d.x4 : Int), .int .u8 (t.d.x5 : Int), .int .u8 (t.d.x6 : Int), .int .u8 (t.d.x7 : Int), .int .i64 t.no, .int .i64 t.fe, .int .i64 t.ki, .slice t.A t.n t.c, .slice t.A' t.n' t.c'] 26)) (Nat.le_refl _))
  have HB := Lib.hid (show Box t (w.alloc (.cells #[.int .u8 (t.d.x0 : Int), .int .u8 (t.d.x1 : Int), .int .u8 (t.d.x2 : Int), .int .u8 (t.d.x3 : Int), .int .u8 (t.d.x4 : Int), .int .u8 (t.d.x5 : Int), .int .u8 (t.d.x6 : Int), .int .u8 (t.d.x7 : Int), .int .i64 t.no, .int .i64 t.fe, .int .i64 t.ki, .slice t.A t.n t.c, .slice t.A' t.n' t.c'] 26)) w.heap.size from heap_alloc_new w _)
  clear h
  go_enter Try.func7, Try.ntmps7
  go_wp2_with fail
  refine (cut_any t _ w.heap.size (by simp) H.out).mono ?_
  rintro e w1 ⟨t', rfl, hcut, hat, hb1⟩
  have HB1 := Lib.hid (HB.out.below hb1)
  have Hat1 := Lib.hid hat
  have Hw1 := Lib.hid ((below_one w _).trans (hb1.mono (by simp)))
  have Hcut := Lib.hid hcut
  clear hb1 hat hcut
  obtain ⟨y0, y1, y2, y3, y4, y5, y6, y7, y8, y9, y10, y11, y12⟩ := HB1.out.all
  have yf := block_free HB1.out
  obtain ⟨s1, s2⟩ := set13 (t' := t') HB1.out
  have S1 := Lib.hid s1; have S2 := Lib.hid s2
  clear s1 s2
  go_wp2_with fail
  generalize (((((((((((((w1.setCell ⟨w.heap.size, 0, none⟩ (.int .u8 (t'.d.x0 : Int))).setCell ⟨w.heap.size, 1, none⟩ (.int .u8 (t'.d.x1 : Int))).setCell ⟨w.heap.size, 2, none⟩ (.int .u8 (t'.d.x2 : Int))).setCell ⟨w.heap.size, 3, none⟩ (.int .u8 (t'.d.x3 : Int))).setCell ⟨w.heap.size, 4, none⟩ (.int .u8 (t'.d.x4 : Int))).setCell ⟨w.heap.size, 5, none⟩ (.int .u8 (t'.d.x5 : Int))).setCell ⟨w.heap.size, 6, none⟩ (.int .u8 (t'.d.x6 : Int))).setCell ⟨w.heap.size, 7, none⟩ (.int .u8 (t'.d.x7 : Int))).setCell ⟨w.heap.size, 8, none⟩ (.int .i64 t'.no)).setCell ⟨w.heap.size, 9, none⟩ (.int .i64 t'.fe)).setCell ⟨w.heap.size, 10, none⟩ (.int .i64 t'.ki)).setCell ⟨w.heap.size, 11, none⟩ (.slice t'.A t'.n t'.c)).setCell ⟨w.heap.size, 12, none⟩ (.slice t'.A' t'.n' t'.c')) = w2 at *
  have Hw2 := Lib.hid (below_gr Hw1.out S2.out (Nat.le_refl _))
  have HatB := Lib.hid (Hat1.out.grown S2.out Hw1.out.size (Nat.le_refl _))
  have Hat2 := Lib.hid (HatB.out.at Hw2.out.size)
  have Ht1 : t'.n ≤ 400 := Hcut.out.2.2.2.2.2.2.1
  have Ht2 : t'.n' ≤ 1100 := Hcut.out.2.2.2.2.2.2.2
  clear y0 y1 y2 y3 y4 y5 y6 y7 y8 y9 y10 y11 y12 yf
  refine (of_any t' w2).mono ?_
  rintro e w3 ⟨rfl, hb3⟩
  have HA3 := Lib.hid (show BoxT t' 26 w3 w.heap.size from S1.out.below hb3)
  have Hw3 := Lib.hid (Hw2.out.trans (hb3.mono Hw2.out.size))
  have Hat3 := Lib.hid (Hat2.out.up hb3)
  clear hb3
  go_wp2_with fail
  refine (checkr_any t' w3 Hat3.out).mono ?_
  rintro e w4 ⟨rfl, hb4⟩
  have HA4 := Lib.hid (HA3.out.below hb4)
  have Hw4 := Lib.hid (Hw3.out.trans (hb4.mono Hw3.out.size))
  have Hat4 := Lib.hid (Hat3.out.up hb4)
  clear hb4
  obtain ⟨y0, y1, y2, y3, y4, y5, y6, y7, y8, y9, y10, y11, y12⟩ := HA4.out.all
  go_wp2_with fail
  refine (encode_any t' w4 Hat4.out).mono ?_
  rintro e w5 ⟨A5, n5, c5, rfl, hr5, hn5, hc5, hb5⟩
  have HA5 := Lib.hid (HA4.out.below hb5)
  have Hw5 := Lib.hid (Hw4.out.trans (hb5.mono Hw4.out.size))
  have Hat5 := Lib.hid (Hat4.out.up hb5)
  have Hr5 := Lib.hid hr5
  have Hn5 := Lib.hid hn5
  clear hb5 hr5 hn5 y0 y1 y2 y3 y4 y5 y6 y7 y8 y9 y10 y11 y12
  obtain ⟨y0, y1, y2, y3, y4, y5, y6, y7, y8, y9, y10, y11, y12⟩ := HA5.out.all
  go_wp2_with fail
  refine (check_any t' w5 Hat5.out).mono ?_
  rintro e w6 ⟨rfl, hb6⟩
  have HA6 := Lib.hid (HA5.out.below hb6)
  have Hw6 := Lib.hid (Hw5.out.trans (hb6.mono Hw5.out.size))
  have Hat6 := Lib.hid (Hat5.out.up hb6)
  have Hr6 := Lib.hid (Hr5.out.up hb6 (Nat.le_refl _))
  clear hb6 y0 y1 y2 y3 y4 y5 y6 y7 y8 y9 y10 y11 y12
  have Hback := Lib.hid (bytes_back (d := t'.d) (no := t'.no) (fe := t'.fe) (ki := t'.ki) (bo := t'.bo) (si := t'.si) Hat6.out.ok)
  have Henc := Lib.hid (show encT t'.no t'.fe t'.ki t'.d t'.bo t'.si = if checkT t'.no t'.fe t'.ki t'.bo t'.si = 0 then bytesT t'.d t'.no t'.fe t'.ki t'.bo t'.si else [] from rfl)
  have Hsm := Lib.hid (bytesT_small (no := t'.no) (fe := t'.fe) (ki := t'.ki) Hat6.out.ok Hat6.out.b1 Hat6.out.b2 (by have := Hat6.out.len1; omega) (by have := Hat6.out.len2; omega))
  have hlen := Hat6.out.len1
  have hlen' := Hat6.out.len2
  have hbl : (bytesT t'.d t'.no t'.fe t'.ki t'.bo t'.si).length ≤ 1600 := by unfold bytesT; rw [List.length_append]; have := headT_len t'.d t'.no t'.fe t'.ki t'.bo; have := encB_len t'.si; omega
  clear hlen hlen'
  generalize checkT t'.no t'.fe t'.ki t'.bo t'.si = q at *
  generalize hL : bytesT t'.d t'.no t'.fe t'.ki t'.bo t'.si = l at *
  have HL := Lib.hid hL
  clear hL
  generalize encT t'.no t'.fe t'.ki t'.d t'.bo t'.si = l' at *
  have b0 : (q != q) = false := by simp
  by_cases hq : q = 0
  · subst hq
    obtain ⟨k1, k2⟩ := Hback.out rfl
    have K1 := Lib.hid k1; have K2 := Lib.hid k2
    have e1 := Henc.out
    rw [if_pos rfl] at e1
    subst e1
    have hl5 : n5 ≤ 1600 := by have := Hn5.out; omega
    clear k1 k2
    go_wp2_with fail
    refine (tdecode_any A5 n5 c5 l' w6 Hr6.out (by omega) Hsm.out).mono ?_
    rintro e w7 ⟨t2, rfl, his, hat7, hb7⟩
    rw [K1.out]
    rw [K2.out] at his
    have Hsame := Lib.hid (is_same his (is_self t'))
    have HA7 := Lib.hid (show BoxT t' 26 (w7.alloc (.cells #[.int .u8 (t2.d.x0 : Int), .int .u8 (t2.d.x1 : Int), .int .u8 (t2.d.x2 : Int), .int .u8 (t2.d.x3 : Int), .int .u8 (t2.d.x4 : Int), .int .u8 (t2.d.x5 : Int), .int .u8 (t2.d.x6 : Int), .int .u8 (t2.d.x7 : Int), .int .i64 t2.no, .int .i64 t2.fe, .int .i64 t2.ki, .slice t2.A t2.n t2.c, .slice t2.A' t2.n' t2.c'] 26)) w.heap.size from block_alloc (HA6.out.below hb7) _)
    have HB7 := Lib.hid (show BoxT t2 26 (w7.alloc (.cells #[.int .u8 (t2.d.x0 : Int), .int .u8 (t2.d.x1 : Int), .int .u8 (t2.d.x2 : Int), .int .u8 (t2.d.x3 : Int), .int .u8 (t2.d.x4 : Int), .int .u8 (t2.d.x5 : Int), .int .u8 (t2.d.x6 : Int), .int .u8 (t2.d.x7 : Int), .int .i64 t2.no, .int .i64 t2.fe, .int .i64 t2.ki, .slice t2.A t2.n t2.c, .slice t2.A' t2.n' t2.c'] 26)) w7.heap.size from heap_alloc_new w7 _)
    have hw7 := Hw6.out.trans (hb7.mono Hw6.out.size)
    have Hw7 := Lib.hid (hw7.trans ((below_one w7 (.cells #[.int .u8 (t2.d.x0 : Int), .int .u8 (t2.d.x1 : Int), .int .u8 (t2.d.x2 : Int), .int .u8 (t2.d.x3 : Int), .int .u8 (t2.d.x4 : Int), .int .u8 (t2.d.x5 : Int), .int .u8 (t2.d.x6 : Int), .int .u8 (t2.d.x7 : Int), .int .i64 t2.no, .int .i64 t2.fe, .int .i64 t2.ki, .slice t2.A t2.n t2.c, .slice t2.A' t2.n' t2.c'] 26)).mono hw7.size))
    have h78 := hb7.trans ((below_one w7 (.cells #[.int .u8 (t2.d.x0 : Int), .int .u8 (t2.d.x1 : Int), .int .u8 (t2.d.x2 : Int), .int .u8 (t2.d.x3 : Int), .int .u8 (t2.d.x4 : Int), .int .u8 (t2.d.x5 : Int), .int .u8 (t2.d.x6 : Int), .int .u8 (t2.d.x7 : Int), .int .i64 t2.no, .int .i64 t2.fe, .int .i64 t2.ki, .slice t2.A t2.n t2.c, .slice t2.A' t2.n' t2.c'] 26)).mono hb7.size)
    have Hat7 := Lib.hid (Hat6.out.up h78)
    have Hbt7 := Lib.hid (hat7.up (below_one w7 (.cells #[.int .u8 (t2.d.x0 : Int), .int .u8 (t2.d.x1 : Int), .int .u8 (t2.d.x2 : Int), .int .u8 (t2.d.x3 : Int), .int .u8 (t2.d.x4 : Int), .int .u8 (t2.d.x5 : Int), .int .u8 (t2.d.x6 : Int), .int .u8 (t2.d.x7 : Int), .int .i64 t2.no, .int .i64 t2.fe, .int .i64 t2.ki, .slice t2.A t2.n t2.c, .slice t2.A' t2.n' t2.c'] 26)))
    have Hr7 := Lib.hid (Hr6.out.up h78 (Nat.le_refl _))
    clear his hat7 hb7 hw7 h78
    go_wp2_with fail
    generalize w7.alloc (.cells #[.int .u8 (t2.d.x0 : Int), .int .u8 (t2.d.x1 : Int), .int .u8 (t2.d.x2 : Int), .int .u8 (t2.d.x3 : Int), .int .u8 (t2.d.x4 : Int), .int .u8 (t2.d.x5 : Int), .int .u8 (t2.d.x6 : Int), .int .u8 (t2.d.x7 : Int), .int .i64 t2.no, .int .i64 t2.fe, .int .i64 t2.ki, .slice t2.A t2.n t2.c, .slice t2.A' t2.n' t2.c'] 26) = w8 at *
    have HA8 := Lib.hid HA7.out.drew; have HB8 := Lib.hid HB7.out.drew; have Hw8 := Lib.hid Hw7.out.drew
    have Hat8 := Lib.hid (Hat7.out.up (Below.refl _ _).drew); have Hbt8 := Lib.hid (Hbt7.out.up (Below.refl _ _).drew); have Hr8 := Lib.hid (Hr7.out.up (Below.refl _ _).drew (Nat.le_refl _))
    go_region_held3 (fun w' => (w'.cell? ⟨w.heap.size, 0, none⟩ = some (.int .u8 (t'.d.x0 : Int)) ∧ w'.cell? ⟨w.heap.size, 1, none⟩ = some (.int .u8 (t'.d.x1 : Int)) ∧ w'.cell? ⟨w.heap.size, 2, none⟩ = some (.int .u8 (t'.d.x2 : Int)) ∧ w'.cell? ⟨w.heap.size, 3, none⟩ = some (.int .u8 (t'.d.x3 : Int)) ∧ w'.cell? ⟨w.heap.size, 4, none⟩ = some (.int .u8 (t'.d.x4 : Int)) ∧ w'.cell? ⟨w.heap.size, 5, none⟩ = some (.int .u8 (t'.d.x5 : Int)) ∧ w'.cell? ⟨w.heap.size, 6, none⟩ = some (.int .u8 (t'.d.x6 : Int)) ∧ w'.cell? ⟨w.heap.size, 7, none⟩ = some (.int .u8 (t'.d.x7 : Int)) ∧ w'.cell? ⟨w.heap.size, 8, none⟩ = some (.int .i64 t'.no) ∧ w'.cell? ⟨w.heap.size, 9, none⟩ = some (.int .i64 t'.fe) ∧ w'.cell? ⟨w.heap.size, 10, none⟩ = some (.int .i64 t'.ki) ∧ w'.cell? ⟨w.heap.size, 11, none⟩ = some (.slice t'.A t'.n t'.c) ∧ w'.cell? ⟨w.heap.size, 12, none⟩ = some (.slice t'.A' t'.n' t'.c')) ∧ (w'.cell? ⟨w7.heap.size, 0, none⟩ = some (.int .u8 (t2.d.x0 : Int)) ∧ w'.cell? ⟨w7.heap.size, 1, none⟩ = some (.int .u8 (t2.d.x1 : Int)) ∧ w'.cell? ⟨w7.heap.size, 2, none⟩ = some (.int .u8 (t2.d.x2 : Int)) ∧ w'.cell? ⟨w7.heap.size, 3, none⟩ = some (.int .u8 (t2.d.x3 : Int)) ∧ w'.cell? ⟨w7.heap.size, 4, none⟩ = some (.int .u8 (t2.d.x4 : Int)) ∧ w'.cell? ⟨w7.heap.size, 5, none⟩ = some (.int .u8 (t2.d.x5 : Int)) ∧ w'.cell? ⟨w7.heap.size, 6, none⟩ = some (.int .u8 (t2.d.x6 : Int)) ∧ w'.cell? ⟨w7.heap.size, 7, none⟩ = some (.int .u8 (t2.d.x7 : Int)) ∧ w'.cell? ⟨w7.heap.size, 8, none⟩ = some (.int .i64 t2.no) ∧ w'.cell? ⟨w7.heap.size, 9, none⟩ = some (.int .i64 t2.fe) ∧ w'.cell? ⟨w7.heap.size, 10, none⟩ = some (.int .i64 t2.ki) ∧ w'.cell? ⟨w7.heap.size, 11, none⟩ = some (.slice t2.A t2.n t2.c) ∧ w'.cell? ⟨w7.heap.size, 12, none⟩ = some (.slice t2.A' t2.n' t2.c')))
      (first | exact BoxT.all2 HA8.out HB8.out | exact BoxT.all2 HA9.out HB9.out | exact BoxT.all2 HA10.out HB10.out | exact BoxT.all2 HA11.out HB11.out | exact BoxT.all2 HA12.out HB12.out | exact BoxT.all2 HA13.out HB13.out | exact BoxT.all2 HA14.out HB14.out | exact BoxT.all2 HA15.out HB15.out | exact BoxT.all2 HA16.out HB16.out | go_keep)
      (first
        | (go_at_call 17; refine (known_any _).mono ?_; rintro e w9 ⟨rfl, hb9⟩; have HA9 := Lib.hid (HA8.out.below hb9); have HB9 := Lib.hid (HB8.out.below hb9); have Hw9 := Lib.hid (Hw8.out.trans (hb9.mono Hw8.out.size)); have Hat9 := Lib.hid (Hat8.out.up hb9); have Hbt9 := Lib.hid (Hbt8.out.up hb9); have Hr9 := Lib.hid (Hr8.out.up hb9 (Nat.le_refl _)); clear hb9)
        | (have _g := HB14; clear _g; go_at_call 13; refine (of_any t' _).mono ?_; rintro e w15 ⟨rfl, hb15⟩; have HA15 := Lib.hid (HA14.out.below hb15); have HB15 := Lib.hid (HB14.out.below hb15); have Hw15 := Lib.hid (Hw14.out.trans (hb15.mono Hw14.out.size)); have Hat15 := Lib.hid (Hat14.out.up hb15); have Hbt15 := Lib.hid (Hbt14.out.up hb15); have Hr15 := Lib.hid (Hr14.out.up hb15 (Nat.le_refl _)); clear hb15)
        | (have _g := HB13; clear _g; go_at_call 13; refine (of_any t2 _).mono ?_; rintro e w14 ⟨rfl, hb14⟩; have HA14 := Lib.hid (HA13.out.below hb14); have HB14 := Lib.hid (HB13.out.below hb14); have Hw14 := Lib.hid (Hw13.out.trans (hb14.mono Hw13.out.size)); have Hat14 := Lib.hid (Hat13.out.up hb14); have Hbt14 := Lib.hid (Hbt13.out.up hb14); have Hr14 := Lib.hid (Hr13.out.up hb14 (Nat.le_refl _)); clear hb14)
        | (go_at_call 13; refine (of_any t' _).mono ?_; rintro e w10 ⟨rfl, hb10⟩; have HA10 := Lib.hid (HA9.out.below hb10); have HB10 := Lib.hid (HB9.out.below hb10); have Hw10 := Lib.hid (Hw9.out.trans (hb10.mono Hw9.out.size)); have Hat10 := Lib.hid (Hat9.out.up hb10); have Hbt10 := Lib.hid (Hbt9.out.up hb10); have Hr10 := Lib.hid (Hr9.out.up hb10 (Nat.le_refl _)); clear hb10)
        | (go_at_call 26; refine (rtbytes_any t' _ Hat10.out).mono ?_; rintro e w11 ⟨A11, n11, c11, rfl, ho11, hn11, hb11⟩; rw [HL.out] at ho11 hn11; have Hrr := Lib.hid (Rd.of_own ho11); have hl11 : n11 ≤ 1600 := (by omega); clear ho11 hn11; have HA11 := Lib.hid (HA10.out.below hb11); have HB11 := Lib.hid (HB10.out.below hb11); have Hw11 := Lib.hid (Hw10.out.trans (hb11.mono Hw10.out.size)); have Hat11 := Lib.hid (Hat10.out.up hb11); have Hbt11 := Lib.hid (Hbt10.out.up hb11); have Hr11 := Lib.hid (Hr10.out.up hb11 (Nat.le_refl _)); clear hb11)
        | (go_at_call 14; refine (samer_any A5 A11 n5 c5 n11 c11 l' l' _ Hr11.out Hrr.out (by omega) (by omega)).mono ?_; rintro e w12 ⟨rfl, hb12⟩; rw [sameB_yes rfl]; have HA12 := Lib.hid (HA11.out.below hb12); have HB12 := Lib.hid (HB11.out.below hb12); have Hw12 := Lib.hid (Hw11.out.trans (hb12.mono Hw11.out.size)); have Hat12 := Lib.hid (Hat11.out.up hb12); have Hbt12 := Lib.hid (Hbt11.out.up hb12); have Hr12 := Lib.hid (Hr11.out.up hb12 (Nat.le_refl _)); clear hb12)
        | (go_at_call 21; refine (tsame_any t2 t' _ Hbt12.out Hat12.out).mono ?_; rintro e w13 ⟨rfl, hb13⟩; rw [Hsame.out]; have HA13 := Lib.hid (HA12.out.below hb13); have HB13 := Lib.hid (HB12.out.below hb13); have Hw13 := Lib.hid (Hw12.out.trans (hb13.mono Hw12.out.size)); have Hat13 := Lib.hid (Hat12.out.up hb13); have Hbt13 := Lib.hid (Hbt12.out.up hb13); have Hr13 := Lib.hid (Hr12.out.up hb13 (Nat.le_refl _)); clear hb13)
        | (go_at_call 19; refine (rsame_any t2 t' _ Hbt15.out Hat15.out).mono ?_; rintro e w16 ⟨rfl, hb16⟩; rw [Hsame.out]; have HA16 := Lib.hid (HA15.out.below hb16); have HB16 := Lib.hid (HB15.out.below hb16); have Hw16 := Lib.hid (Hw15.out.trans (hb16.mono Hw15.out.size)); have Hat16 := Lib.hid (Hat15.out.up hb16); have Hbt16 := Lib.hid (Hbt15.out.up hb16); have Hr16 := Lib.hid (Hr15.out.up hb16 (Nat.le_refl _)); clear hb16))
    all_goals
      go_wp2
      go_ret
      exact ⟨rfl, Hw16.out⟩
  · have b1 : (q != 0) = true := by simpa using hq
    have e1 := Henc.out
    rw [if_neg hq] at e1
    subst e1
    have hn5 := Hn5.out
    simp at hn5
    subst hn5
    clear hq
    go_wp2_with fail
    refine (known_any _).mono ?_
    rintro e w7 ⟨rfl, hb7⟩
    have Hw7 := Lib.hid (Hw6.out.trans (hb7.mono Hw6.out.size))
    clear hb7
    go_wp2
    go_ret
    exact ⟨rfl, Hw7.out⟩
end Go.Proofs.Ytebepgoaofhelaa
