/- The walk of the statement CodeThere: what is listed is parsed as it was; what is parsed is listed as just this text. Conditions: the tables read as laid. -/
import Derived.Test.YtecolkpnllikaaaDoorLsQ
import Derived.Test.YtecolkpnllikaaaDoorCodeP
import Derived.Test.YtecolkpnllikaaaDoorCodeG
namespace Go.Proofs.YtecolkpnllikaaaDoor
open Go.RowKit Go.Lib
set_option maxRecDepth 100000 in
set_option maxHeartbeats 4000000 in
theorem codeThere_any (A : Option Addr) (n c : Nat) (l : List Ins) (s : List UInt8) (w : World) (hT : OpTab w) (hM : MaxAt w) (h1 : 1 < w.heap.size) (hW : TabW w) (hr : Rd w w.heap.size 4 A n (flat l)) (hn : n ≤ 9223372036854775807)
    (hs : s.length ≤ 9223372036854775807) :
    Calls Tryd.prog 8 #[.slice A n c, .string (byt s)] w fun e w' => e = .returned (.bool true) ∧ Below w.heap.size w w' := by
  have HT := Lib.hid hT; have Hr := Lib.hid hr; have HM := Lib.hid hM
  have h0 := hT.1
  have HW := Lib.hid (fun (u : World) (hu : Below w.heap.size w u) => hW.below hu hW.1)
  have hsz : (byt s).size = s.length := byt_size s
  clear hT hr hM hW
  go_enter Tryd.func8, Tryd.ntmps8
  go_wp2_with fail
  refine (known_any _ HT.out).mono ?_
  rintro e w1 ⟨rfl, hb1⟩
  have HT1 := Lib.hid (HT.out.below hb1 h0)
  have Hb1 := Lib.hid hb1
  clear hb1
  by_cases h3 : 300 < n
  · have hd : decide ((300 : Int) < (n : Int)) = true := decide_eq_true (by omega)
    clear h3
    go_wp2_with fail
    refine (known_any _ HT1.out).mono ?_
    rintro e w2 ⟨rfl, hb2⟩
    have Hb2 := Lib.hid (Hb1.out.trans (hb2.mono Hb1.out.size))
    clear hb2
    go_wp2
    go_ret
    exact ⟨rfl, Hb2.out⟩
  have hd : decide ((300 : Int) < (n : Int)) = false := decide_eq_false (by omega)
  by_cases h4 : 4000 < s.length
  · have hd2 : decide ((4000 : Int) < (s.length : Int)) = true := decide_eq_true (by omega)
    clear h3 h4
    go_wp2_with fail
    refine (known_any _ HT1.out).mono ?_
    rintro e w2 ⟨rfl, hb2⟩
    have Hb2 := Lib.hid (Hb1.out.trans (hb2.mono Hb1.out.size))
    clear hb2
    go_wp2
    go_ret
    exact ⟨rfl, Hb2.out⟩
  have hd2 : decide ((4000 : Int) < (s.length : Int)) = false := decide_eq_false (by omega)
  have hn3 : n ≤ 300 := by omega
  have hs4 : s.length ≤ 4000 := by omega
  clear h3 h4 hn hs
  go_wp2_with fail
  refine (of_any A n c l w1 ((Hr.out.below Hb1.out (Nat.le_refl _)).more Hb1.out.size) (by omega)).mono ?_
  rintro e w2 ⟨A2, n2, c2, rfl, hr2, hn2, hb2⟩
  have hl2 : l.length = n := by have := Hr.out.1; rw [flat_len] at this; omega
  obtain rfl : n2 = n := by omega
  have Hb2 := Lib.hid (Hb1.out.trans (hb2.mono Hb1.out.size))
  have Hr2 := Lib.hid hr2
  clear hb2 hr2 hn2
  go_wp2_with fail
  refine (list_any A2 n2 c2 l w2 (HT.out.below Hb2.out h0) (HW.out w2 Hb2.out) Hr2.out (by omega)).mono ?_
  rintro e w3 ⟨rfl, hb3⟩
  have Hb3 := Lib.hid (Hb2.out.trans (hb3.mono Hb2.out.size))
  clear hb3
  by_cases hck : (checkI l 256).2 = 0
  · have b1 : ((checkI l 256).2 == 0) = true := by simpa using hck
    have hle : listE l = listW l := by unfold listE; rw [if_pos hck]
    have hlw : (listW l).length ≤ 18000 := by
      have := check_all hck
      have h2 := list_len this.1 l this.2.2
      omega
    have P1 := Lib.hid (parse_list hck (by omega))
    have P2 := Lib.hid (parse_fly hck (by rw [List.length_append, show flyL.length = 6 from rfl]; omega))
    have hb6 : (byt (listW l)).size = (listW l).length := byt_size _
    rw [hle]
    clear hle hck
    go_wp2_with fail
    refine (parse_any (listW l) w3 (HT.out.below Hb3.out h0) (HM.out.below Hb3.out h1) (Nat.lt_of_lt_of_le h1 Hb3.out.size) (by omega)).mono ?_
    rintro e w4 ⟨A4, n4, c4, rfl, hr4, hn4, hb4⟩
    rw [P1.out] at hr4 hn4 ⊢
    simp only at hr4 hn4 ⊢
    have Hb4 := Lib.hid (Hb3.out.trans (hb4.mono Hb3.out.size))
    have Hr4 := Lib.hid hr4
    have hn4b : n4 ≤ 300 := by omega
    have hcat : byt (listW l) ++ (⟨#[102, 108, 121, 32, 49, 10]⟩ : ByteArray) = byt (listW l ++ flyL) := byt_byt _ flyL
    have hszx : ¬ 9223372036854775807 < (listW l).length + 6 := by omega
    clear hb4 hr4 hn4
    go_wp2_with fail
    refine (parse_any (listW l ++ flyL) w4 (HT.out.below Hb4.out h0) (HM.out.below Hb4.out h1) (Nat.lt_of_lt_of_le h1 Hb4.out.size) (by rw [List.length_append, show flyL.length = 6 from rfl]; omega)).mono ?_
    rintro e w5 ⟨A5, n5, c5, rfl, _, _, hb5⟩
    rw [P2.out]
    simp only
    have Hb5 := Lib.hid (Hb4.out.trans (hb5.mono Hb4.out.size))
    have Hr5 := Lib.hid ((Hr4.out.below hb5 (Nat.le_refl _)).more hb5.size)
    clear hb5 hcat hszx Hr4
    go_wp2_with fail
    refine (to_any A4 n4 c4 l w5 Hr5.out (by omega)).mono ?_
    rintro e w6 ⟨A6, n6, c6, rfl, hr6, hn6, hb6'⟩
    have Hb6 := Lib.hid (Hb5.out.trans (hb6'.mono Hb5.out.size))
    have Hr6 := Lib.hid hr6
    have hn6b : n6 ≤ 300 := by omega
    clear hb6' hr6 hn6 Hr5
    go_wp2_with fail
    refine (same_any A6 A n6 n2 c6 c l l w6 Hr6.out ((Hr.out.below Hb6.out (Nat.le_refl _)).more Hb6.out.size) (by omega) (by omega)).mono ?_
    rintro e w7 ⟨rfl, hb7⟩
    rw [sameL_self]
    have Hb7 := Lib.hid (Hb6.out.trans (hb7.mono Hb6.out.size))
    clear hb7 Hr6
    go_wp2_with fail
    refine (parse_any s w7 (HT.out.below Hb7.out h0) (HM.out.below Hb7.out h1) (Nat.lt_of_lt_of_le h1 Hb7.out.size) (by omega)).mono ?_
    rintro e v1 ⟨Az, nz, cz, rfl, hrz, hnz, hbz⟩
    have Hbz := Lib.hid (Hb7.out.trans (hbz.mono Hb7.out.size))
    have Hpb := Lib.hid (fun y ln (h : parseT s = (y, ln, 0)) => parse_back h)
    have Hpn := Lib.hid (fun (h : (parseT s).2.2 ≠ 0) => parse_none h)
    clear hbz
    generalize parseT s = r at *
    obtain ⟨y, ln, er⟩ := r
    simp only at hrz hnz Hpn ⊢
    have Hrz := Lib.hid hrz; have Hnz := Lib.hid hnz
    clear hrz hnz
    by_cases her : er = 0
    · subst her
      obtain ⟨q0, q1, q2⟩ := Hpb.out y ln rfl
      subst q0
      have hle : listE y = s := by unfold listE; rw [if_pos q1, q2]
      have hyl : y.length ≤ 1000000 := by have := (check_all q1).1; omega
      have Hc := Lib.hid q1
      clear q1 q2 Hpn Hpb
      go_wp2_with fail
      refine (list_any Az nz cz y v1 (HT.out.below Hbz.out h0) (HW.out v1 Hbz.out) Hrz.out (by have := Hnz.out; omega)).mono ?_
      rintro e v2 ⟨rfl, hby⟩
      rw [hle, Hc.out]
      have Hby := Lib.hid (Hbz.out.trans (hby.mono Hbz.out.size))
      have hss : ((byt s).toList == (byt s).toList) = true := by simp
      clear hby hle
      go_wp2
      go_ret
      exact ⟨rfl, Hby.out⟩
    · have z1 : (er != 0) = true := by simpa using her
      have hz0 : nz = 0 := by rw [Hnz.out, Hpn.out her]; rfl
      subst hz0
      clear her Hpn Hpb
      go_wp2
      go_ret
      exact ⟨rfl, Hbz.out⟩
  · have b1 : ((checkI l 256).2 == 0) = false := by simpa using hck
    have hle : listE l = [] := by unfold listE; rw [if_neg hck]
    rw [hle]
    have hem : (byt []).toList.isEmpty = true := by rw [byt_empty]; rfl
    clear hle hck
    go_wp2_with fail
    refine (parse_any s w3 (HT.out.below Hb3.out h0) (HM.out.below Hb3.out h1) (Nat.lt_of_lt_of_le h1 Hb3.out.size) (by omega)).mono ?_
    rintro e v1 ⟨Az, nz, cz, rfl, hrz, hnz, hbz⟩
    have Hbz := Lib.hid (Hb3.out.trans (hbz.mono Hb3.out.size))
    have Hpb := Lib.hid (fun y ln (h : parseT s = (y, ln, 0)) => parse_back h)
    have Hpn := Lib.hid (fun (h : (parseT s).2.2 ≠ 0) => parse_none h)
    clear hbz
    generalize parseT s = r at *
    obtain ⟨y, ln, er⟩ := r
    simp only at hrz hnz Hpn ⊢
    have Hrz := Lib.hid hrz; have Hnz := Lib.hid hnz
    clear hrz hnz
    by_cases her : er = 0
    · subst her
      obtain ⟨q0, q1, q2⟩ := Hpb.out y ln rfl
      subst q0
      have hle : listE y = s := by unfold listE; rw [if_pos q1, q2]
      have hyl : y.length ≤ 1000000 := by have := (check_all q1).1; omega
      have Hc := Lib.hid q1
      clear q1 q2 Hpn Hpb
      go_wp2_with fail
      refine (list_any Az nz cz y v1 (HT.out.below Hbz.out h0) (HW.out v1 Hbz.out) Hrz.out (by have := Hnz.out; omega)).mono ?_
      rintro e v2 ⟨rfl, hby⟩
      rw [hle, Hc.out]
      have Hby := Lib.hid (Hbz.out.trans (hby.mono Hbz.out.size))
      have hss : ((byt s).toList == (byt s).toList) = true := by simp
      clear hby hle
      go_wp2
      go_ret
      exact ⟨rfl, Hby.out⟩
    · have z1 : (er != 0) = true := by simpa using her
      have hz0 : nz = 0 := by rw [Hnz.out, Hpn.out her]; rfl
      subst hz0
      clear her Hpn Hpb
      go_wp2
      go_ret
      exact ⟨rfl, Hbz.out⟩
end Go.Proofs.YtecolkpnllikaaaDoor
