/- The walk of the reference's PayTo, and the plain law of what is paid. Conditions: bounds. -/
import Derived.Test.YtebepgoaofhelaaTxD
import Derived.Test.YtebepgoaofhelaaTxCut
import Derived.Test.YtebepgoaofhelaaEncLaw
import Derived.Test.YtebepgoaofhelaaOctLaw
namespace Go.Proofs.Ytebepgoaofhelaa
open Go.RowKit Go.Lib


theorem numr_at (m : Int) (w : World) (hm : 0 ≤ m) (hm2 : m < 18446744073709551616) : Calls Try.prog 41 #[.int .u64 m] w (GivesB w (encN m.toNat)) := by
  obtain ⟨k, rfl⟩ := Int.eq_ofNat_of_zero_le hm
  exact numr_any k w (by omega)
set_option maxRecDepth 100000 in
set_option maxHeartbeats 2000000 in
theorem payTor_any (d : D8) (am : Int) (w : World) (h : d.ok) : Calls Try.prog 16 #[.agg #[.int .u8 (d.x0 : Int), .int .u8 (d.x1 : Int), .int .u8 (d.x2 : Int), .int .u8 (d.x3 : Int), .int .u8 (d.x4 : Int), .int .u8 (d.x5 : Int), .int .u8 (d.x6 : Int), .int .u8 (d.x7 : Int)], .int .i64 am] w (GivesB w (payL d am)) := by
  obtain ⟨i0, hi, hz0, hz1, hz2⟩ := info_parts info_u8
  have HI := Lib.hid (And.intro hi (And.intro hz0 (And.intro hz1 hz2))); clear hi hz0 hz1 hz2
  have H := Lib.hid h
  clear h
  go_enter Try.func16, Try.ntmps16
  go_wp2_with fail
  refine (rnum_any d _ H.out).mono ?_
  rintro e w2 ⟨rfl, hb2⟩
  have Hw2 := Lib.hid ((below_one w _).trans (hb2.mono (by simp)))
  clear hb2
  go_wp2_with fail
  refine (numr_at _ w2 (by omega) (by have := D8.num_lt H.out; omega)).mono ?_
  rintro e w3 ⟨A3, n3, c3, rfl, ho3, hn3, hb3⟩
  rw [Int.toNat_natCast] at ho3 hn3
  have hl3 : n3 ≤ 11 := by rw [hn3]; exact encN_len d.num
  have Ho3 := Lib.hid ho3; have Hn3 := Lib.hid hn3
  have Hb3 := Lib.hid hb3
  clear ho3 hb3 hn3
  go_wp2_with fail
  refine (numr_at _ w3 (wrapU _).1 (wrapU _).2).mono ?_
  rintro e w4 ⟨A4, n4, c4, rfl, ho4, hn4, hb4⟩
  have Ho3b := Lib.hid (own_below Ho3.out hb4)
  have Hr4 := Lib.hid (Rd.of_own ho4)
  have hl4 : n4 ≤ 11 := by rw [hn4]; exact encN_len _
  have Hn4 := Lib.hid hn4
  have Hw4 := Lib.hid (Hb3.out.trans (hb4.mono Hb3.out.size))
  have hz4 := Hw4.out.size
  clear ho4 hb4 hn4
  go_wp2_with (at_builtin; go_must (refine wpList_append_rd w4 (by rfl) _ _ 24 (by rfl) w2.heap.size 5 i0 (.int .u8 0) 1 1 Try.underlying24 HI.out rfl (by decide) _ _ _ (by rfl) Ho3b.out w4.heap.size A4 n4 c4 (bv (encN (u64N am))) (by rfl) Hr4.out (bv_one _) (by omega) (by omega) (by omega) ?_); intro v5 w5 hown5 hb5; have Hown5 := Lib.hid hown5; have Hb5 := Lib.hid hb5; clear hown5 hb5)
  go_ret
  obtain ⟨A5, c5, rfl⟩ := own_form Hown5.out
  refine ⟨A5, n3 + n4, c5, rfl, ?_, ?_, Hw2.out.trans ((Hw4.out.trans Hb5.out).mono Hw2.out.size)⟩
  · have := own_down Hown5.out Hw2.out.size
    unfold payL
    rw [bv_append]
    exact this
  · unfold payL
    rw [List.length_append, Hn3.out, Hn4.out]; rfl
theorem u64_neg {x : Int} (h : x < 0) (h2 : -9223372036854775808 ≤ x) : 1125899906842624 < u64N x := by unfold u64N; rw [IntKind.wrap_u64]; omega
theorem numRS_bad {l : List Nat} {at_ most : Nat} {k v : Nat} {e : Int} (h : take1 (l.drop at_) most = (k, e, v)) (he : e ≠ 0) : numRS ⟨l, at_, 0⟩ most = (⟨l, at_, e⟩, 0) := by
  unfold numRS; simp [h, he]
theorem paid_pay {d : D8} (hd : d.ok) {am : Int} (h1 : -9223372036854775808 ≤ am) (h2 : am ≤ 9223372036854775807) :
    paidT 0 (payL d am) = if 0 ≤ am ∧ am ≤ 1125899906842624 then (d, am, 0) else (d0, 0, 2) := by
  have hn := D8.num_lt hd
  have hu : u64N am < 18446744073709551616 := by have := wrapU am; unfold u64N; omega
  have e1 : numRS ⟨payL d am, 0, 0⟩ 18446744073709551615 = (⟨payL d am, (encN d.num).length, 0⟩, d.num) := by
    have := numRS_take1 (l := payL d am) (at_ := 0) (most := 18446744073709551615) (k := (encN d.num).length) (v := d.num) (by
      rw [List.drop_zero]; unfold payL; rw [take1_enc hn, if_neg (by omega)])
    simpa using this
  have hdrop : (payL d am).drop (encN d.num).length = encN (u64N am) ++ [] := by unfold payL; simp
  unfold paidT
  rw [if_pos rfl]
  simp only [e1]
  by_cases hm : 1125899906842624 < u64N am
  · have e2 : numRS ⟨payL d am, (encN d.num).length, 0⟩ 1125899906842624 = (⟨payL d am, (encN d.num).length, 2⟩, 0) :=
      numRS_bad (k := 0) (v := 0) (by rw [hdrop, take1_enc hu, if_pos hm]) (by decide)
    rw [e2]
    have hno : ¬ (0 ≤ am ∧ am ≤ 1125899906842624) := by
      rintro ⟨h3, h4⟩
      rw [u64N_in h3 (by omega)] at hm
      omega
    rw [if_neg hno]
    simp [endRS]
  · have e2 : numRS ⟨payL d am, (encN d.num).length, 0⟩ 1125899906842624 = (⟨payL d am, (encN d.num).length + (encN (u64N am)).length, 0⟩, u64N am) :=
      numRS_take1 (by rw [hdrop, take1_enc hu, if_neg hm])
    rw [e2]
    have h0 : 0 ≤ am := by
      rcases Int.lt_or_le am 0 with h3 | h3
      · exact absurd (u64_neg h3 h1) hm
      · exact h3
    have hua := u64N_in h0 (by omega)
    have hend : endRS ⟨payL d am, (encN d.num).length + (encN (u64N am)).length, 0⟩ = 0 := by
      unfold endRS
      rw [if_neg (by simp), if_neg (by unfold payL; simp)]
    rw [if_pos hend, D8.of_num hd, hua, if_pos ⟨h0, by omega⟩]
    simp only [Prod.mk.injEq, true_and, and_true]
    omega
end Go.Proofs.Ytebepgoaofhelaa
