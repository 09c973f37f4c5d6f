/- The walk of the statement CodeBack: what is encoded is decoded as it was, each front of it is refused; what is decoded is encoded as just these bytes. Condition: the table of operations reads as laid. -/
import Derived.Test.YtecolkpnllikaaaDoorCodeN
import Derived.Test.YtecolkpnllikaaaDoorCodeP
import Derived.Test.YtecolkpnllikaaaDoorCodeCv
import Derived.Test.YtecolkpnllikaaaDoorCodeG
import Derived.Test.YtecolkpnllikaaaDoorEnc2
import Derived.Test.YtecolkpnllikaaaDoorCodeBk
import Derived.Test.YtecolkpnllikaaaDoorRefRead
namespace Go.Proofs.YtecolkpnllikaaaDoor
open Go.RowKit Go.Lib
theorem enc7_small256 : ∀ (f n : Nat), n < 128 ^ (f + 1) → ∀ x ∈ enc7 f n, x < 256 := by
  intro f
  induction f with
  | zero =>
    intro n hn x hx
    have h1 : n < 128 := by simpa using hn
    have h2 : x = n := by simpa [enc7] using hx
    omega
  | succ f ih =>
    intro n hn x hx
    by_cases h : n < 128
    · rw [enc7_small h] at hx; simp at hx; omega
    · rw [enc7_big h] at hx
      rcases List.mem_cons.1 hx with rfl | hx
      · omega
      · exact ih _ (by rw [Nat.pow_succ] at hn; exact Nat.div_lt_of_lt_mul (by rw [Nat.mul_comm]; exact hn)) x hx
theorem encN_small {n : Nat} (h : n < 18446744073709551616) : ∀ x ∈ encN n, x < 256 := enc7_small256 10 n (Nat.lt_of_lt_of_le h (by decide))
theorem encL_small (l : List Ins) : ∀ x ∈ encL l, x < 256 := by
  unfold encL
  by_cases h : (checkI l 256).2 = 0
  · rw [if_pos h]
    obtain ⟨h1, h2, h3⟩ := checked h
    unfold allB
    rw [List.take_length]
    intro x hx
    rw [List.mem_append] at hx
    rcases hx with hx | hx
    · exact encN_small (by omega) x hx
    · rw [List.mem_flatMap] at hx
      obtain ⟨i, hi, hx⟩ := hx
      obtain ⟨j, hj, rfl⟩ := List.mem_iff_getElem.1 hi
      have hg := h3 j hj
      rw [List.getD_eq_getElem?_getD, List.getElem?_eq_getElem hj, Option.getD_some] at hg
      have hr := right_range (size := (l.length : Int)) (words := 256) (by omega) (by omega) hg
      have hop := right_op hg
      have key : ∀ k, k ≤ 3 → ∀ x ∈ oneB l[j].op l[j].a l[j].b l[j].c k, x < 256 := by
        intro k
        induction k with
        | zero => intro _ x hx; exact encN_small (by omega) x hx
        | succ k ih =>
          intro hk x hx
          rw [oneB, List.mem_append] at hx
          rcases hx with hx | hx
          · exact ih (by omega) x hx
          · have := hr k (by omega)
            exact encN_small (foldN_lt (by omega) (by omega)) x hx
      exact key _ (hasOf_size _) x hx
  · rw [if_neg h]; simp
theorem encL_len {l : List Ins} (h : (checkI l 256).2 = 0) : 1 ≤ (encL l).length := by
  unfold encL
  rw [if_pos h]
  unfold allB
  have := enc7_pos 10 l.length
  rw [List.length_append]
  unfold encN
  omega
theorem encL_max (l : List Ins) (h : l.length ≤ 2048) : (encL l).length ≤ 100000 := by
  unfold encL
  split
  · have := allB_len l l.length; omega
  · simp
set_option maxRecDepth 100000 in
set_option maxHeartbeats 4000000 in
theorem codeBack_any (A B : Option Addr) (n c m d : Nat) (cut : Nat) (l : List Ins) (b : List Nat) (w : World) (hT : OpTab w) (hr : Rd w w.heap.size 4 A n (flat l)) (hn : n ≤ 9223372036854775807)
    (hr' : Rd w w.heap.size 1 B m (bv b)) (hm : m ≤ 9223372036854775807) (hb : ∀ x ∈ b, x < 256) (hcut : cut < 65536) :
    Calls Tryd.prog 7 #[.slice A n c, .slice B m d, .int .u16 (cut : Int)] w fun e w' => e = .returned (.bool true) ∧ Below w.heap.size w w' := by
  have HT := Lib.hid hT; have Hr := Lib.hid hr; have Hr' := Lib.hid hr'; have Hb := Lib.hid hb
  have h0 := hT.1
  clear hT hr hr' hb
  go_enter Tryd.func7, Tryd.ntmps7
  go_wp2_with fail
  refine (known_any _ HT.out).mono ?_
  rintro e w1 ⟨rfl, hb1⟩
  have HT1 := Lib.hid (HT.out.below hb1 h0)
  have Hb1 := Lib.hid hb1
  clear hb1
  by_cases hbig : 300 < n ∨ 2000 < m
  · rcases hbig with h3 | h3
    · have hd : decide ((300 : Int) < (n : Int)) = true := decide_eq_true (by omega)
      clear h3
      go_wp2_with fail
      refine (known_any _ HT1.out).mono ?_
      rintro e w2 ⟨rfl, hb2⟩
      have Hb2 := Lib.hid (Hb1.out.trans (hb2.mono Hb1.out.size))
      clear hb2
      go_wp2
      go_ret
      exact ⟨rfl, Hb2.out⟩
    · by_cases h4 : 300 < n
      · have hd : decide ((300 : Int) < (n : Int)) = true := decide_eq_true (by omega)
        clear h3 h4
        go_wp2_with fail
        refine (known_any _ HT1.out).mono ?_
        rintro e w2 ⟨rfl, hb2⟩
        have Hb2 := Lib.hid (Hb1.out.trans (hb2.mono Hb1.out.size))
        clear hb2
        go_wp2
        go_ret
        exact ⟨rfl, Hb2.out⟩
      · have hd : decide ((300 : Int) < (n : Int)) = false := decide_eq_false (by omega)
        have hd2 : decide ((2000 : Int) < (m : Int)) = true := decide_eq_true (by omega)
        clear h3 h4
        go_wp2_with fail
        refine (known_any _ HT1.out).mono ?_
        rintro e w2 ⟨rfl, hb2⟩
        have Hb2 := Lib.hid (Hb1.out.trans (hb2.mono Hb1.out.size))
        clear hb2
        go_wp2
        go_ret
        exact ⟨rfl, Hb2.out⟩
  have hn3 : n ≤ 300 := by omega
  have hm2 : m ≤ 2000 := by omega
  have hd : decide ((300 : Int) < (n : Int)) = false := decide_eq_false (by omega)
  have hd2 : decide ((2000 : Int) < (m : Int)) = false := decide_eq_false (by omega)
  clear hbig hn hm
  go_wp2_with fail
  refine (of_any A n c l w1 ((Hr.out.below Hb1.out (Nat.le_refl _)).more Hb1.out.size) (by omega)).mono ?_
  rintro e w2 ⟨A2, n2, c2, rfl, hr2, hn2, hb2⟩
  have hl2 : l.length = n := by have := Hr.out.1; rw [flat_len] at this; omega
  obtain rfl : n2 = n := by omega
  have Hb2 := Lib.hid (Hb1.out.trans (hb2.mono Hb1.out.size))
  have Hr2 := Lib.hid hr2
  clear hb2 hr2 hn2
  obtain ⟨i0, hi, hz0, hz1, hz2⟩ := info_parts info_u8
  have HI := Lib.hid (And.intro hi (And.intro hz0 (And.intro hz1 hz2))); clear hi hz0 hz1 hz2
  go_wp2_with fail
  refine (encode_any A2 n2 c2 l w2 (HT.out.below Hb2.out h0) Hr2.out (by omega)).mono ?_
  rintro e w3 ⟨A3, n3, c3, rfl, hr3, hn3', hc3, hb3⟩
  have Hb3 := Lib.hid (Hb2.out.trans (hb3.mono Hb2.out.size))
  have Hr3 := Lib.hid hr3
  have Hn3 := Lib.hid hn3'
  have hn3b : n3 ≤ 100000 := by rw [hn3']; exact encL_max l (by omega)
  clear hb3 hr3 hn3'
  by_cases hck : (checkI l 256).2 = 0
  · have b1 : ((checkI l 256).2 == 0) = true := by simpa using hck
    obtain ⟨e1, e2⟩ := decE_enc hck
    have E1 := Lib.hid e1; have E2 := Lib.hid e2
    have E3 := Lib.hid (decE_long hck)
    have E4 := Lib.hid (fun (m : Nat) => decE_short (m := m) hck)
    have hpos : 1 ≤ n3 := by rw [Hn3.out]; exact encL_len hck
    clear e1 e2
    go_wp2_with fail
    refine (decode_any A3 n3 c3 (encL l) w3 (HT.out.below Hb3.out h0) Hr3.out (by omega) (encL_small l)).mono ?_
    rintro e w4 ⟨A4, n4, c4, rfl, hr4, hn4', hb4⟩
    rw [E1.out]
    rw [E2.out] at hr4 hn4'
    have Hb4 := Lib.hid (Hb3.out.trans (hb4.mono Hb3.out.size))
    have Hr4 := Lib.hid hr4
    have Hr3' := Lib.hid (Hr3.out.upR hb4 (Nat.le_refl _))
    have hn4 : n4 ≤ 300 := by omega
    clear hb4 hr4 hn4' Hr3
    have q1 : ((n3 : Int) == 0) = false := by simp; omega
    go_wp2_with fail
    refine (to_any A4 n4 c4 l w4 Hr4.out (by omega)).mono ?_
    rintro e w5 ⟨A5, n5, c5, rfl, hr5, hn5, hb5⟩
    have Hb5 := Lib.hid (Hb4.out.trans (hb5.mono Hb4.out.size))
    have Hr5 := Lib.hid hr5
    have Hr3'' := Lib.hid (Hr3'.out.upR hb5 (Nat.le_refl _))
    have hn5b : n5 ≤ 300 := by omega
    clear hb5 hr5 hn5 Hr3' Hr4
    go_wp2_with fail
    refine (same_any A5 A n5 n2 c5 c l l w5 Hr5.out ((Hr.out.below Hb5.out (Nat.le_refl _)).more Hb5.out.size) (by omega) (by omega)).mono ?_
    rintro e w6 ⟨rfl, hb6⟩
    rw [sameL_self]
    have Hb6 := Lib.hid (Hb5.out.trans (hb6.mono Hb5.out.size))
    have Hr6 := Lib.hid (Hr3''.out.upR hb6 (Nat.le_refl _))
    clear hb6 Hr3'' Hr5
    have hmlt : cut % n3 < n3 := Nat.mod_lt _ (by omega)
    obtain ⟨A8, hrun0, hrd8⟩ := slice_to elem_u8 sizeOf_u8 Hr6.out hc3 (m := cut % n3) (by omega)
    have hrun : ∀ w', (Instr.sliceAt 48 (.slice A3 n3 c3) none (some (.int .i64 ((cut : Int) % (n3 : Int)))) none).run Tryd.prog w' = .ok (.slice A8 (cut % n3) c3) w' := by
      intro w'; have := hrun0 w'; rwa [Int.natCast_emod] at this
    have Hrd8 : Hid (Rd w6 w6.heap.size 1 A8 (cut % n3) (bv ((encL l).take (cut % n3)))) := by
      show Rd _ _ _ _ _ _
      rw [Nat.mul_one, ← bv_take] at hrd8
      exact hrd8
    have E5 := Lib.hid (E4.out (cut % n3) (by have := Hn3.out; omega))
    clear hrun0 hrd8
    generalize cut % n3 = mm at *
    go_wp2_with fail
    refine (decode_any A8 mm c3 ((encL l).take mm) w6 (HT.out.below Hb6.out h0) Hrd8.out (by omega) (fun x hx => encL_small l x (List.mem_of_mem_take hx))).mono ?_
    rintro e w7 ⟨A7, n7, c7, rfl, hr7, hn7, hb7⟩
    rw [E5.out.1]
    rw [E5.out.2] at hn7
    have hn7' : n7 = 0 := hn7
    have Hb7 := Lib.hid (Hb6.out.trans (hb7.mono Hb6.out.size))
    have Hr7 := Lib.hid (Hr6.out.upR hb7 (Nat.le_refl _))
    clear hb7 hr7 hn7 hrun
    subst hn7'
    have Own8 : Hid (World.ownsRow (w7.alloc (.cells #[] 5)) w7.heap.size 5 1 (.slice (some ⟨w7.heap.size, 0, none⟩) 0 0) 0 []) := by
      show World.ownsRow _ _ _ _ _ _ _
      exact World.ownsRow_made w7 #[] 0 (Nat.le_refl _) (by decide) rfl
    have Hr8 := Lib.hid (Hr7.out.alloc (Nat.le_refl _) (.cells #[] 5))
    have Hb8 := Lib.hid (Hb7.out.alloc Hb7.out.size (.cells #[] 5))
    have hs7 := Hb7.out.size
    go_wp2_with (first
      | (have _g := Own8; clear _g; at_builtin; go_must (refine wpList_append_rd (w7.alloc (.cells #[] 5)) (by rfl) _ _ 48 (by rfl) w7.heap.size 5 i0 (.int .u8 0) 1 1 Tryd.underlying48 HI.out rfl (by decide) _ _ _ (by rfl) Own8.out w7.heap.size A3 n3 c3 (bv (encL l)) (by rfl) Hr8.out (bv_one _) (by omega) (by omega) (by simp) ?_); intro v9 w9 hown9 hb9; obtain ⟨A9, c9, rfl⟩ := own_form hown9; simp only [Nat.zero_add, List.nil_append] at hown9 ⊢; have Hown9 := Lib.hid hown9; have hs9 : w7.heap.size ≤ w9.heap.size := (by have := hb9.size; simp at this; omega); have Hb9 := Lib.hid (Hb8.out.trans (hb9.mono hs7)); clear hown9 hb9 Own8)
      | (have _g := Hown9; clear _g; at_builtin; go_must (refine wpList_append_lit w9 (by rfl) _ _ 48 (by rfl) w7.heap.size 5 i0 (.int .u8 0) 1 1 Tryd.underlying48 HI.out rfl (by decide) _ _ _ (by rfl) Hown9.out 1 1 #[.int .u8 0] 5 (by rfl) rfl (by simp [Value.oneCell']) (by omega) (by omega) (by omega) ?_); intro v10 w10 hown10 hb10; obtain ⟨A10, c10, rfl⟩ := own_form hown10; have Hown10 := Lib.hid hown10; have Hb10 := Lib.hid (Hb9.out.trans (hb10.mono hs7)); clear hown10 hb10))
    have Hrd10 : Hid (Rd w10 w10.heap.size 1 A10 (n3 + 1) (bv (encL l ++ [0]))) := by
      show Rd _ _ _ _ _ _
      have h := Rd.of_own Hown10.out
      rw [bv_append]
      exact h
    refine (decode_any A10 _ c10 (encL l ++ [0]) w10 (HT.out.below Hb10.out h0) Hrd10.out (by omega) ?_).mono ?_
    · intro x hx
      rcases List.mem_append.1 hx with h | h
      · exact encL_small l x h
      · simp at h; omega
    rintro e w11 ⟨A11, n11, c11, rfl, hr11, hn11, hb11⟩
    rw [E3.out]
    have Hb11 := Lib.hid (Hb10.out.trans (hb11.mono Hb10.out.size))
    clear hb11 hr11 hn11
    go_wp2_with fail
    refine (decode_any B m d b w11 (HT.out.below Hb11.out h0) ((Hr'.out.below Hb11.out (Nat.le_refl _)).more Hb11.out.size) (by omega) Hb.out).mono ?_
    rintro e v1 ⟨Az, nz, cz, rfl, hrz, hnz, hbz⟩
    have Hbz := Lib.hid (Hb11.out.trans (hbz.mono Hb11.out.size))
    have Hrz := Lib.hid hrz
    have Hnz := Lib.hid hnz
    have hnzb : nz ≤ 2048 := by rw [hnz]; exact decL_len b
    clear hbz hrz hnz
    by_cases hde : decE b = 0
    · have z1 : (decE b != 0) = false := by simpa using hde
      obtain ⟨k1, k2⟩ := enc_dec Hb.out hde
      have K1 := Lib.hid k1; have K2 := Lib.hid k2
      clear k1 k2
      go_wp2_with fail
      refine (encode_any Az nz cz (decL b) v1 (HT.out.below Hbz.out h0) Hrz.out (by omega)).mono ?_
      rintro e v2 ⟨Ay, ny, cy, rfl, hry, hny, _, hby⟩
      rw [K1.out]
      rw [K2.out] at hry
      have Hby := Lib.hid (Hbz.out.trans (hby.mono Hbz.out.size))
      have hv3 := conv_bytes hry cy 9 Tryd.underlying9
      have hv4 := conv_bytes (Hr'.out.below Hby.out (Nat.le_refl _)) d 9 Tryd.underlying9
      have hss : ((strS b).toList == (strS b).toList) = true := by simp
      clear hby hny
      go_wp2
      go_ret
      exact ⟨rfl, Hby.out⟩
    · have z1 : (decE b != 0) = true := by simpa using hde
      have hz0 : nz = 0 := by rw [Hnz.out]; unfold decL; rw [if_neg hde]; rfl
      subst hz0
      go_wp2
      go_ret
      exact ⟨rfl, Hbz.out⟩
  · have b1 : ((checkI l 256).2 == 0) = false := by simpa using hck
    have hn30 : n3 = 0 := by rw [Hn3.out]; unfold encL; rw [if_neg hck]; rfl
    subst hn30
    clear hck
    go_wp2_with fail
    refine (decode_any B m d b w3 (HT.out.below Hb3.out h0) ((Hr'.out.below Hb3.out (Nat.le_refl _)).more Hb3.out.size) (by omega) Hb.out).mono ?_
    rintro e v1 ⟨Az, nz, cz, rfl, hrz, hnz, hbz⟩
    have Hbz := Lib.hid (Hb3.out.trans (hbz.mono Hb3.out.size))
    have Hrz := Lib.hid hrz
    have Hnz := Lib.hid hnz
    have hnzb : nz ≤ 2048 := by rw [hnz]; exact decL_len b
    clear hbz hrz hnz
    by_cases hde : decE b = 0
    · have z1 : (decE b != 0) = false := by simpa using hde
      obtain ⟨k1, k2⟩ := enc_dec Hb.out hde
      have K1 := Lib.hid k1; have K2 := Lib.hid k2
      clear k1 k2
      go_wp2_with fail
      refine (encode_any Az nz cz (decL b) v1 (HT.out.below Hbz.out h0) Hrz.out (by omega)).mono ?_
      rintro e v2 ⟨Ay, ny, cy, rfl, hry, hny, _, hby⟩
      rw [K1.out]
      rw [K2.out] at hry
      have Hby := Lib.hid (Hbz.out.trans (hby.mono Hbz.out.size))
      have hv3 := conv_bytes hry cy 9 Tryd.underlying9
      have hv4 := conv_bytes (Hr'.out.below Hby.out (Nat.le_refl _)) d 9 Tryd.underlying9
      have hss : ((strS b).toList == (strS b).toList) = true := by simp
      clear hby hny
      go_wp2
      go_ret
      exact ⟨rfl, Hby.out⟩
    · have z1 : (decE b != 0) = true := by simpa using hde
      have hz0 : nz = 0 := by rw [Hnz.out]; unfold decL; rw [if_neg hde]; rfl
      subst hz0
      go_wp2
      go_ret
      exact ⟨rfl, Hbz.out⟩
end Go.Proofs.YtecolkpnllikaaaDoor
