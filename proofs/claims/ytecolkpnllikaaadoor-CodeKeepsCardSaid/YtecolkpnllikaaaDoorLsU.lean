/- The walk of the statement CodeKeeps: instructions by bytes and by words are one and the same; what was handed in stays as it was. Conditions: the tables read as laid. -/
import Derived.Test.YtecolkpnllikaaaDoorLsTOpen
import Derived.Test.YtecolkpnllikaaaDoorCodeR
namespace Go.Proofs.YtecolkpnllikaaaDoor
open Go.RowKit Go.Lib
theorem check_minus {l : List Ins} {words : Int} (h : (checkI l words).2 = 0) : (checkI l words).1 = -1 := by
  unfold checkI at h ⊢
  split
  · rfl
  · rename_i hr
    rw [if_neg hr] at h
    split
    · rename_i k hk; rw [hk] at h; simp at h
    · rfl
set_option maxRecDepth 100000 in
set_option maxHeartbeats 4000000 in
theorem codeKeeps_any (A : Option Addr) (n c : Nat) (l : List Ins) (w : World) (hT : OpTab w) (hM : MaxAt w) (h1 : 1 < w.heap.size) (hW : TabW w) (hr : Rd w w.heap.size 4 A n (flat l)) (hn : n ≤ 9223372036854775807) :
    Calls Tryd.prog 9 #[.slice A n c] w fun e w' => e = .returned (.bool true) ∧ Below w.heap.size w w' := by
  have HT := Lib.hid hT; have Hr := Lib.hid hr; have HM := Lib.hid hM
  have h0 := hT.1
  have HW := Lib.hid (fun (u : World) (hu : Below w.heap.size w u) => hW.below hu hW.1)
  clear hT hr hM hW
  go_enter Tryd.func9, Tryd.ntmps9
  go_wp2_with fail
  refine (known_any _ HT.out).mono ?_
  rintro e w1 ⟨rfl, hb1⟩
  have HT1 := Lib.hid (HT.out.below hb1 h0)
  have Hb1 := Lib.hid hb1
  clear hb1
  by_cases h3 : 300 < n
  · have hd : decide ((300 : Int) < (n : Int)) = true := decide_eq_true (by omega)
    clear h3
    go_wp2_with fail
    refine (known_any _ HT1.out).mono ?_
    rintro e w2 ⟨rfl, hb2⟩
    have Hb2 := Lib.hid (Hb1.out.trans (hb2.mono Hb1.out.size))
    clear hb2
    go_wp2
    go_ret
    exact ⟨rfl, Hb2.out⟩
  have hd : decide ((300 : Int) < (n : Int)) = false := decide_eq_false (by omega)
  have hn3 : n ≤ 300 := by omega
  clear h3 hn
  go_wp2_with fail
  refine (of_any A n c l w1 ((Hr.out.below Hb1.out (Nat.le_refl _)).more Hb1.out.size) (by omega)).mono ?_
  rintro e w2 ⟨A2, n2, c2, rfl, hr2, hn2, hb2⟩
  have hl2 : l.length = n := by have := Hr.out.1; rw [flat_len] at this; omega
  obtain rfl : n2 = n := by omega
  have Hb2 := Lib.hid (Hb1.out.trans (hb2.mono Hb1.out.size))
  have Hr2 := Lib.hid hr2
  clear hb2 hr2 hn2
  go_wp2_with fail
  refine (encode_any A2 n2 c2 l w2 (HT.out.below Hb2.out h0) Hr2.out (by omega)).mono ?_
  rintro e w3 ⟨A3, n3, c3, rfl, hr3, hn3', _, hb3⟩
  have Hb3 := Lib.hid (Hb2.out.trans (hb3.mono Hb2.out.size))
  have Hr3 := Lib.hid hr3
  have Hn3 := Lib.hid hn3'
  have Hr23 := Lib.hid ((Hr2.out.below hb3 (Nat.le_refl _)).more hb3.size)
  have hn3b : n3 ≤ 100000 := by rw [hn3']; exact encL_max l (by omega)
  clear hb3 hr3 hn3' Hr2
  go_wp2_with fail
  refine (list_any A2 n2 c2 l w3 (HT.out.below Hb3.out h0) (HW.out w3 Hb3.out) Hr23.out (by omega)).mono ?_
  rintro e w4 ⟨rfl, hb4⟩
  have Hb4 := Lib.hid (Hb3.out.trans (hb4.mono Hb3.out.size))
  have Hr24 := Lib.hid ((Hr23.out.below hb4 (Nat.le_refl _)).more hb4.size)
  have Hr34 := Lib.hid ((Hr3.out.below hb4 (Nat.le_refl _)).more hb4.size)
  clear hb4 Hr23 Hr3
  go_wp2_with fail
  refine (check_any A2 n2 c2 l 256 w4 (HT.out.below Hb4.out h0) Hr24.out (by omega)).mono ?_
  rintro e w5 ⟨rfl, hb5⟩
  have Hb5 := Lib.hid (Hb4.out.trans (hb5.mono Hb4.out.size))
  have Hr25 := Lib.hid ((Hr24.out.below hb5 (Nat.le_refl _)).more hb5.size)
  have Hr35 := Lib.hid ((Hr34.out.below hb5 (Nat.le_refl _)).more hb5.size)
  clear hb5 Hr24 Hr34
  have hee : ((checkI l 256).2 != (checkI l 256).2) = false := by simp
  go_wp2_with fail
  refine (to_any A2 n2 c2 l w5 Hr25.out (by omega)).mono ?_
  rintro e w6 ⟨A6, n6, c6, rfl, hr6, hn6, hb6⟩
  have Hb6 := Lib.hid (Hb5.out.trans (hb6.mono Hb5.out.size))
  have Hr6 := Lib.hid hr6
  have Hr36 := Lib.hid ((Hr35.out.below hb6 (Nat.le_refl _)).more hb6.size)
  have hn6b : n6 ≤ 300 := by omega
  clear hb6 hr6 hn6 Hr25 Hr35
  go_wp2_with fail
  refine (same_any A6 A n6 n2 c6 c l l w6 Hr6.out ((Hr.out.below Hb6.out (Nat.le_refl _)).more Hb6.out.size) (by omega) (by omega)).mono ?_
  rintro e w7 ⟨rfl, hb7⟩
  rw [sameL_self]
  have Hb7 := Lib.hid (Hb6.out.trans (hb7.mono Hb6.out.size))
  have Hr37 := Lib.hid ((Hr36.out.below hb7 (Nat.le_refl _)).more hb7.size)
  clear hb7 Hr6 Hr36
  by_cases hck : (checkI l 256).2 = 0
  · have b1 : ((checkI l 256).2 == 0) = true := by simpa using hck
    have b2 : ((checkI l 256).2 != 0) = false := by simpa using hck
    have b3 : ((checkI l 256).1 != -1) = false := by rw [check_minus hck]; rfl
    have hle : listE l = listW l := by unfold listE; rw [if_pos hck]
    have hlw : (listW l).length ≤ 18000 := by
      have := check_all hck
      have h2 := list_len this.1 l this.2.2
      omega
    have P1 := Lib.hid (parse_list hck (by omega))
    obtain ⟨e1, e2⟩ := decE_enc hck
    have E1 := Lib.hid e1; have E2 := Lib.hid e2
    rw [hle]
    clear hle hck e1 e2
    go_wp2_with fail
    refine (decode_any A3 n3 c3 (encL l) w7 (HT.out.below Hb7.out h0) Hr37.out (by omega) (encL_small l)).mono ?_
    rintro e w8 ⟨A8, n8, c8, rfl, hr8, hn8, hb8⟩
    rw [E1.out]
    rw [E2.out] at hr8 hn8
    have Hb8 := Lib.hid (Hb7.out.trans (hb8.mono Hb7.out.size))
    have Hr8 := Lib.hid hr8
    have hn8b : n8 ≤ 300 := by omega
    clear hb8 hr8 hn8 Hr37
    go_wp2_with fail
    refine (parse_any (listW l) w8 (HT.out.below Hb8.out h0) (HM.out.below Hb8.out h1) (Nat.lt_of_lt_of_le h1 Hb8.out.size) (by omega)).mono ?_
    rintro e w9 ⟨A9, n9, c9, rfl, hr9, hn9, hb9⟩
    rw [P1.out] at hr9 hn9 ⊢
    simp only at hr9 hn9 ⊢
    have Hb9 := Lib.hid (Hb8.out.trans (hb9.mono Hb8.out.size))
    have Hr9 := Lib.hid hr9
    have Hr89 := Lib.hid ((Hr8.out.below hb9 (Nat.le_refl _)).more hb9.size)
    have hn9b : n9 ≤ 300 := by omega
    clear hb9 hr9 hn9 Hr8
    go_wp2_with fail
    refine (to_any A8 n8 c8 l w9 Hr89.out (by omega)).mono ?_
    rintro e v1 ⟨B1, m1, d1, rfl, hs1, hm1, hc1⟩
    have Hc1 := Lib.hid (Hb9.out.trans (hc1.mono Hb9.out.size))
    have Hs1 := Lib.hid hs1
    have Hs9 := Lib.hid ((Hr9.out.below hc1 (Nat.le_refl _)).more hc1.size)
    have hm1b : m1 ≤ 300 := by omega
    clear hc1 hs1 hm1 Hr9 Hr89
    go_wp2_with fail
    refine (to_any A9 n9 c9 l v1 Hs9.out (by omega)).mono ?_
    rintro e v2 ⟨B2, m2, d2, rfl, hs2, hm2, hc2⟩
    have Hc2 := Lib.hid (Hc1.out.trans (hc2.mono Hc1.out.size))
    have Hs2 := Lib.hid hs2
    have Hs12 := Lib.hid ((Hs1.out.below hc2 (Nat.le_refl _)).more hc2.size)
    have hm2b : m2 ≤ 300 := by omega
    clear hc2 hs2 hm2 Hs1 Hs9
    go_wp2_with fail
    refine (same_any B1 B2 m1 m2 d1 d2 l l v2 Hs12.out Hs2.out (by omega) (by omega)).mono ?_
    rintro e v3 ⟨rfl, hc3⟩
    rw [sameL_self]
    have Hc3 := Lib.hid (Hc2.out.trans (hc3.mono Hc2.out.size))
    clear hc3
    go_wp2
    go_ret
    exact ⟨rfl, Hc3.out⟩
  · have b1 : ((checkI l 256).2 == 0) = false := by simpa using hck
    have b2 : ((checkI l 256).2 != 0) = true := by simpa using hck
    have hle : listE l = [] := by unfold listE; rw [if_neg hck]
    have hz : n3 = 0 := by rw [Hn3.out]; unfold encL; rw [if_neg hck]; rfl
    subst hz
    rw [hle]
    have hem : (byt []).toList.isEmpty = true := by rw [byt_empty]; rfl
    clear hle hck
    go_wp2
    go_ret
    exact ⟨rfl, Hb7.out⟩
open Go.ChangeShapes Go.WideShapes Go.ChangeAt Go.RowKit Go.Joins Go.Deep
set_option maxRecDepth 100000 in
theorem codeKeeps_open {H : Type} {enc : TypeId × Value → H} {W : World} {base : Nat} {v0 : Value} {d0 : DataW H} {p0 : List MemPlace} {q : Prop}
    (a0 : Value.okWide Tryd.prog W .any base 36 v0)
    (h0 : DataW.Trod enc Tryd.prog W 0 (fun _ => true) true 36 v0 d0 p0)
    (hL : laidMetH Tryd.prog Rows.codeKeepsRow.laid W) (hsh : W.ShapedOpen Tryd.prog) (_hq : q) :
    Calls Tryd.prog 9 #[v0] W fun e w' => e = .returned (.bool true) ∧ Below W.heap.size W w' := by
  obtain ⟨A, n, cp, l, rfl, hr, hn⟩ := open_ins Tryd.underlying36 a0 h0
  have h2 : laidMet Tryd.prog Rows.codeKeepsRow.laid W := hL
  have e : Rows.codeKeepsRow.laid = ("math/bits.deBruijn32tab", Rows.laid_math_bits_deBruijn32tab) :: ("math/bits.deBruijn64tab", Rows.laid_math_bits_deBruijn64tab) :: ("internal/strconv.uint64pow10", Lib.tabData .u64 Lib.pow10Tab) :: ("unicode/utf8.acceptRanges", Rows.laid_unicode_utf8_acceptRanges) :: ("baize/code.operations", Rows.laid_baize_code_operations) :: [("unicode/utf8.first", Rows.laid_unicode_utf8_first)] := rfl
  rw [e] at h2
  have hm := max_of_shape hsh
  exact codeKeeps_any _ _ _ _ _ (opTab_fifth h2) hm.1 hm.2 (tab_of_laidT h2) hr hn
end Go.Proofs.YtecolkpnllikaaaDoor
