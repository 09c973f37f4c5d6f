/- The walk of the statement CodeBytes: the bytes of any instructions, and the instructions of any bytes, are as the document says. Condition: the table of operations reads as laid. -/
import Derived.Test.YtecolkpnllikaaaDoorCodeO
import Derived.Test.YtecolkpnllikaaaDoorCodeP
import Derived.Test.YtecolkpnllikaaaDoorCodeCv
import Derived.Test.YtecolkpnllikaaaDoorCodeG
import Derived.Test.YtecolkpnllikaaaDoorEnc2
import Derived.Test.YtecolkpnllikaaaDoorEncR
namespace Go.Proofs.YtecolkpnllikaaaDoor
open Go.RowKit Go.Lib
set_option maxRecDepth 100000 in
set_option maxHeartbeats 2000000 in
theorem codeBytes_any (A B : Option Addr) (n c m d : Nat) (l : List Ins) (b : List Nat) (w : World) (hT : OpTab w) (hr : Rd w w.heap.size 4 A n (flat l)) (hn : n ≤ 9223372036854775807)
    (hr' : Rd w w.heap.size 1 B m (bv b)) (hmd : m ≤ d) (hm : m ≤ 9223372036854775807) (hb : ∀ x ∈ b, x < 256) :
    Calls Tryd.prog 6 #[.slice A n c, .slice B m d] w fun e w' => e = .returned (.bool true) ∧ Below w.heap.size w w' := by
  have HT := Lib.hid hT; have Hr := Lib.hid hr; have Hr' := Lib.hid hr'; have Hb := Lib.hid hb
  have h0 := hT.1
  clear hT hr hr' hb
  go_enter Tryd.func6, Tryd.ntmps6
  go_wp2_with fail
  refine (known_any _ HT.out).mono ?_
  rintro e w1 ⟨rfl, hb1⟩
  have HT1 := Lib.hid (HT.out.below hb1 h0)
  have Hb1 := Lib.hid hb1
  clear hb1
  by_cases hbig : 300 < n ∨ 2000 < m
  · rcases hbig with h3 | h3
    · have hd : decide ((300 : Int) < (n : Int)) = true := decide_eq_true (by omega)
      clear h3
      go_wp2_with fail
      refine (known_any _ HT1.out).mono ?_
      rintro e w2 ⟨rfl, hb2⟩
      have Hb2 := Lib.hid (Hb1.out.trans (hb2.mono Hb1.out.size))
      clear hb2
      go_wp2
      go_ret
      exact ⟨rfl, Hb2.out⟩
    · by_cases h4 : 300 < n
      · have hd : decide ((300 : Int) < (n : Int)) = true := decide_eq_true (by omega)
        clear h3 h4
        go_wp2_with fail
        refine (known_any _ HT1.out).mono ?_
        rintro e w2 ⟨rfl, hb2⟩
        have Hb2 := Lib.hid (Hb1.out.trans (hb2.mono Hb1.out.size))
        clear hb2
        go_wp2
        go_ret
        exact ⟨rfl, Hb2.out⟩
      · have hd : decide ((300 : Int) < (n : Int)) = false := decide_eq_false (by omega)
        have hd2 : decide ((2000 : Int) < (m : Int)) = true := decide_eq_true (by omega)
        clear h3 h4
        go_wp2_with fail
        refine (known_any _ HT1.out).mono ?_
        rintro e w2 ⟨rfl, hb2⟩
        have Hb2 := Lib.hid (Hb1.out.trans (hb2.mono Hb1.out.size))
        clear hb2
        go_wp2
        go_ret
        exact ⟨rfl, Hb2.out⟩
  have hn3 : n ≤ 300 := by omega
  have hm2 : m ≤ 2000 := by omega
  have hd : decide ((300 : Int) < (n : Int)) = false := decide_eq_false (by omega)
  have hd2 : decide ((2000 : Int) < (m : Int)) = false := decide_eq_false (by omega)
  clear hbig hn hm
  go_wp2_with fail
  refine (of_any A n c l w1 ((Hr.out.below Hb1.out (Nat.le_refl _)).more Hb1.out.size) (by omega)).mono ?_
  rintro e w2 ⟨A2, n2, c2, rfl, hr2, hn2, hb2⟩
  have hl2 : l.length = n := by have := Hr.out.1; rw [flat_len] at this; omega
  obtain rfl : n2 = n := by omega
  have Hb2 := Lib.hid (Hb1.out.trans (hb2.mono Hb1.out.size))
  have Hr2 := Lib.hid hr2
  clear hb2 hr2 hn2
  go_wp2_with fail
  refine (encode_any A2 n2 c2 l w2 (HT.out.below Hb2.out h0) Hr2.out (by omega)).mono ?_
  rintro e w3 ⟨A3, n3, c3, rfl, hr3, hn3', _, hb3⟩
  have Hb3 := Lib.hid (Hb2.out.trans (hb3.mono Hb2.out.size))
  have Hr3 := Lib.hid hr3
  have Hn3 := Lib.hid hn3'
  clear hb3 hr3 hn3'
  go_wp2_with fail
  refine (encoder_any A n2 c l w3 ((Hr.out.below Hb3.out (Nat.le_refl _)).more Hb3.out.size) (by omega)).mono ?_
  rintro e w4 ⟨A4, n4, c4, rfl, hr4, hn4', _, hb4⟩
  have Hb4 := Lib.hid (Hb3.out.trans (hb4.mono Hb3.out.size))
  have Hr4 := Lib.hid hr4
  have Hr3' := Lib.hid (Hr3.out.upR hb4 (Nat.le_refl _))
  have Hn4 := Lib.hid hn4'
  clear hb4 hr4 hn4' Hr3
  go_wp2_with fail
  refine (decode_any B m d b w4 (HT.out.below Hb4.out h0) ((Hr'.out.below Hb4.out (Nat.le_refl _)).more Hb4.out.size) (by omega) Hb.out).mono ?_
  rintro e w5 ⟨A5, n5, c5, rfl, hr5, hn5', hb5⟩
  have Hb5 := Lib.hid (Hb4.out.trans (hb5.mono Hb4.out.size))
  have Hr5 := Lib.hid hr5
  have Hr3'' := Lib.hid (Hr3'.out.upR hb5 (Nat.le_refl _))
  have Hr4' := Lib.hid (Hr4.out.upR hb5 (Nat.le_refl _))
  have Hn5 := Lib.hid hn5'
  have hn5b : n5 ≤ 2048 := by rw [hn5']; exact decL_len b
  clear hb5 hr5 hn5' Hr3' Hr4
  go_wp2_with fail
  refine (decoder_any B m d b w5 ((Hr'.out.below Hb5.out (Nat.le_refl _)).more Hb5.out.size) hmd (by omega) Hb.out).mono ?_
  rintro e w6 ⟨A6, n6, c6, rfl, hr6, hn6', hb6⟩
  have Hb6 := Lib.hid (Hb5.out.trans (hb6.mono Hb5.out.size))
  have Hr6 := Lib.hid hr6
  have Hr5' := Lib.hid (Hr5.out.upR hb6 (Nat.le_refl _))
  have hv3 := conv_bytes (Hr3''.out.upR hb6 (Nat.le_refl _)) c3 9 Tryd.underlying9
  have hv4 := conv_bytes (Hr4'.out.upR hb6 (Nat.le_refl _)) c4 9 Tryd.underlying9
  have hn6b : n6 ≤ 2048 := by rw [hn6']; exact decL_len b
  have Hn6 := Lib.hid hn6'
  clear hb6 hr6 hn6' Hr3'' Hr4' Hr5
  have hss : ((strS (encL l)).toList == (strS (encL l)).toList) = true := by simp
  have he1 : ((checkI l 256).2 == (checkI l 256).2) = true := by simp
  have he2 : (decE b == decE b) = true := by simp
  go_wp2_with fail
  refine (to_any A5 n5 c5 (decL b) w6 Hr5'.out (by omega)).mono ?_
  rintro e w7 ⟨A7, n7, c7, rfl, hr7, hn7, hb7⟩
  have Hb7 := Lib.hid (Hb6.out.trans (hb7.mono Hb6.out.size))
  have Hr7 := Lib.hid hr7
  have Hr6' := Lib.hid (Hr6.out.upR hb7 (Nat.le_refl _))
  have hn7b : n7 ≤ 2048 := by rw [hn7]; exact decL_len b
  clear hb7 hr7 hn7 hv3 hv4
  go_wp2_with fail
  refine (same_any A7 A6 n7 n6 c7 c6 (decL b) (decL b) w7 Hr7.out Hr6'.out (by omega) (by omega)).mono ?_
  rintro e w8 ⟨rfl, hb8⟩
  rw [sameL_self]
  have Hb8 := Lib.hid (Hb7.out.trans (hb8.mono Hb7.out.size))
  clear hb8
  go_wp2
  go_ret
  exact ⟨rfl, Hb8.out⟩
end Go.Proofs.YtecolkpnllikaaaDoor
