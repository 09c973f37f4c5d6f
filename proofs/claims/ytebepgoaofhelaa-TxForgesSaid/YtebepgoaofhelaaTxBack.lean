/- Plain law: the bytes of a transaction that is in order are decoded as just it. No program in it, so there is no condition. -/
import Derived.Test.YtebepgoaofhelaaTxLaw
import Derived.Test.YtebepgoaofhelaaTxE
namespace Go.Proofs.Ytebepgoaofhelaa

/-- What is encoded is decoded as it was. -/
theorem bytes_back {d : D8} {no fe ki : Int} {bo si : List Nat} (hd : d.ok) (hc : checkT no fe ki bo si = 0) :
    derr (bytesT d no fe ki bo si) = 0 ∧ decT (bytesT d no fe ki bo si) = ⟨d, no, fe, ki, bo, si⟩ := by
  have hin : inT no fe ki bo.length si.length = true := by
    unfold checkT at hc
    split at hc
    · assumption
    · simp at hc
  have hin2 := hin
  unfold inT at hin2
  simp only [Bool.and_eq_true, upB_iff] at hin2
  obtain ⟨⟨⟨⟨hno, hfe⟩, hki⟩, hbo⟩, hsi⟩ := hin2
  have hdn := D8.num_lt hd
  generalize hl : bytesT d no fe ki bo si = l
  have hl0 : l.drop 0 = encN (u64N ki) ++ (encN d.num ++ (encN (u64N no) ++ (encN (u64N fe) ++ (encB bo ++ (encB si ++ []))))) := by
    rw [← hl]; unfold bytesT headT; simp [List.append_assoc]
  have k1 := u64N_in hki.1 (by omega)
  have k2 := u64N_in hno.1 (by omega)
  have k3 := u64N_in hfe.1 (by omega)
  obtain ⟨s1, r1⟩ := numRS_step hl0 (by omega) (show u64N ki ≤ 2 by omega)
  obtain ⟨s2, r2⟩ := numRS_step r1 (by omega) (show d.num ≤ 18446744073709551615 by omega)
  obtain ⟨s3, r3⟩ := numRS_step r2 (by omega) (show u64N no ≤ 1099511627776 by omega)
  obtain ⟨s4, r4⟩ := numRS_step r3 (by omega) (show u64N fe ≤ 1125899906842624 by omega)
  obtain ⟨s5, r5⟩ := bytesRS_step r4 (by omega) (show bo.length ≤ 32768 by omega)
  obtain ⟨s6, r6⟩ := bytesRS_step r5 (by omega) (show si.length ≤ 1024 by omega)
  have e1 := (show dk l = numRS ⟨l, 0, 0⟩ 2 from rfl).trans s1
  have e2 : df l = numRS (dk l).1 18446744073709551615 := rfl
  rw [e1] at e2; replace e2 := e2.trans s2
  have e3 : dn l = numRS (df l).1 1099511627776 := rfl
  rw [e2] at e3; replace e3 := e3.trans s3
  have e4 : de l = numRS (dn l).1 1125899906842624 := rfl
  rw [e3] at e4; replace e4 := e4.trans s4
  have e5 : db l = bytesRS (de l).1 32768 := rfl
  rw [e4] at e5; replace e5 := e5.trans s5
  have e6 : ds l = bytesRS (db l).1 1024 := rfl
  rw [e5] at e6; replace e6 := e6.trans s6
  have hend : endRS (ds l).1 = 0 := by
    rw [e6]
    unfold endRS
    simp only
    rw [if_neg (by simp), if_neg]
    have h1 := congrArg List.length r6
    rw [List.length_drop] at h1
    simp only [List.length_nil] at h1
    omega
  have i1 : ((u64N ki : Nat) : Int) = ki := by omega
  have i2 : ((u64N no : Nat) : Int) = no := by omega
  have i3 : ((u64N fe : Nat) : Int) = fe := by omega
  have herr : derr l = 0 := by
    unfold derr
    rw [if_pos hend, e1, e3, e4, e5, e6]
    simp only
    rw [i1, i2, i3]; exact hc
  refine ⟨herr, ?_⟩
  unfold decT
  rw [if_pos herr, e1, e2, e3, e4, e5, e6]
  simp only
  rw [i1, i2, i3, D8.of_num hd]
end Go.Proofs.Ytebepgoaofhelaa
