/- Plain law: what is decoded is encoded as just these bytes. No program in it, so there is no condition. -/
import Derived.Test.YtebepgoaofhelaaTxG
namespace Go.Proofs.Ytebepgoaofhelaa

theorem u64_nat {v : Nat} (h : v < 18446744073709551616) : u64N (v : Int) = v := by rw [u64N_in (by omega) (by omega)]; simp
/-- What is decoded, encoded, is these bytes. -/
theorem dec_bytes {b : List Nat} (hb : ∀ x ∈ b, x < 256) (h : derr b = 0) : bytesT (decT b).d (decT b).no (decT b).fe (decT b).ki (decT b).bo (decT b).si = b ∧ checkT (decT b).no (decT b).fe (decT b).ki (decT b).bo (decT b).si = 0 := by
  have hd : decT b = ⟨D8.of (df b).2, (dn b).2, (de b).2, (dk b).2, (db b).2, (ds b).2⟩ := by unfold decT; rw [if_pos h]
  have hend : endRS (ds b).1 = 0 := by
    unfold derr at h
    split at h
    · assumption
    · exact h
  have hchk : checkT (dn b).2 (de b).2 (dk b).2 (db b).2 (ds b).2 = 0 := by unfold derr at h; rw [if_pos hend] at h; exact h
  have herr : (ds b).1.err = 0 ∧ (ds b).1.l.length ≤ (ds b).1.at_ := by
    unfold endRS at hend
    split at hend
    · rename_i h1; exact absurd hend h1
    · rename_i h1
      split at hend
      · simp at hend
      · exact ⟨by simpa using h1, by omega⟩
  have F1 : (dk b).1.l = b := numRS_l _ _
  have F2 : (df b).1.l = b := (numRS_l _ _).trans F1
  have F3 : (dn b).1.l = b := (numRS_l _ _).trans F2
  have F4 : (de b).1.l = b := (numRS_l _ _).trans F3
  have F5 : (db b).1.l = b := (bytesRS_l _ _).trans F4
  have F6 : (ds b).1.l = b := (bytesRS_l _ _).trans F5
  have s6 := bytesRS_one (s := (db b).1) (m := 1024) (by rw [F5]; exact hb) herr.1
  have s5 := bytesRS_one (s := (de b).1) (m := 32768) (by rw [F4]; exact hb) s6.1
  have s4 := numRS_one (s := (dn b).1) (m := 1125899906842624) (by rw [F3]; exact hb) s5.1
  have s3 := numRS_one (s := (df b).1) (m := 1099511627776) (by rw [F2]; exact hb) s4.1
  have s2 := numRS_one (s := (dk b).1) (m := 18446744073709551615) (by rw [F1]; exact hb) s3.1
  have s1 := numRS_one (s := ⟨b, 0, 0⟩) (m := 2) hb s2.1
  have t1 := s1.2; have t2 := s2.2; have t3 := s3.2; have t4 := s4.2; have t5 := s5.2; have t6 := s6.2
  change List.drop 0 b = encN (dk b).2 ++ List.drop (dk b).1.at_ b at t1
  rw [F1] at t2
  change List.drop (dk b).1.at_ b = encN (df b).2 ++ List.drop (df b).1.at_ b at t2
  rw [F2] at t3
  change List.drop (df b).1.at_ b = encN (dn b).2 ++ List.drop (dn b).1.at_ b at t3
  rw [F3] at t4
  change List.drop (dn b).1.at_ b = encN (de b).2 ++ List.drop (de b).1.at_ b at t4
  rw [F4] at t5
  change List.drop (de b).1.at_ b = encB (db b).2 ++ List.drop (db b).1.at_ b at t5
  rw [F5] at t6
  change List.drop (db b).1.at_ b = encB (ds b).2 ++ List.drop (ds b).1.at_ b at t6
  have e6 : List.drop (ds b).1.at_ b = [] := List.drop_of_length_le (by have := herr.2; rw [F6] at this; exact this)
  have v1 := numRS_le ⟨b, 0, 0⟩ 2
  have v2 := numRS_le (dk b).1 18446744073709551615
  have v3 := numRS_le (df b).1 1099511627776
  have v4 := numRS_le (dn b).1 1125899906842624
  change (dk b).2 ≤ 2 at v1
  change (df b).2 ≤ 18446744073709551615 at v2
  change (dn b).2 ≤ 1099511627776 at v3
  change (de b).2 ≤ 1125899906842624 at v4
  rw [hd]
  refine ⟨?_, hchk⟩
  simp only [bytesT, headT]
  rw [u64_nat (by omega), u64_nat (by omega), u64_nat (by omega), D8.num_of (by omega)]
  rw [e6, List.append_nil] at t6
  rw [List.drop_zero] at t1
  rw [t6] at t5
  rw [t5] at t4
  rw [t4] at t3
  rw [t3] at t2
  rw [t2] at t1
  simp only [List.append_assoc]
  exact t1.symm
end Go.Proofs.Ytebepgoaofhelaa
