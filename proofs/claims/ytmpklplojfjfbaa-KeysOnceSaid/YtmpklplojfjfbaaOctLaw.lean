/- Plain laws of layer 1's bytes: what is read is what was put, and there is one writing. No program in them, so there is no condition. -/
import Derived.Test.YtmpklplojfjfbaaOctLn
import Derived.Test.YtmpklplojfjfbaaJoinA
namespace Go.Proofs.Ytmpklplojfjfbaa
theorem bytesRS_step {l : List Nat} {at_ most : Nat} {x r : List Nat} (hd : l.drop at_ = encB x ++ r) (hv : x.length < 18446744073709551616) (hm : x.length ≤ most) :
    bytesRS ⟨l, at_, 0⟩ most = (⟨l, at_ + (encB x).length, 0⟩, x) ∧ l.drop (at_ + (encB x).length) = r := by
  have hd2 : l.drop at_ = encN x.length ++ (x ++ r) := by rw [hd]; unfold encB; rw [List.append_assoc]
  have ht : takeB (l.drop at_) most = ((encN x.length).length + x.length, 0, x) := by
    rw [hd2]
    unfold takeB
    rw [encN_look hv]
    simp only
    rw [if_neg (by simp), if_neg (by omega), if_neg (by simp only [List.length_append]; omega), List.drop_left, List.take_left]
  refine ⟨?_, by rw [← List.drop_drop, hd, List.drop_left]⟩
  unfold bytesRS
  simp only
  rw [if_neg (by simp), ht]
  simp only
  rw [if_neg (by simp)]
  unfold encB
  rw [List.length_append]
theorem bytesRS_one {s : RS} {m : Nat} (hb : ∀ x ∈ s.l, x < 256) (h : (bytesRS s m).1.err = 0) : s.err = 0 ∧ s.l.drop s.at_ = encB (bytesRS s m).2 ++ s.l.drop (bytesRS s m).1.at_ := by
  obtain ⟨l, at_, err⟩ := s
  unfold bytesRS at h ⊢
  by_cases he : err = 0
  · refine ⟨he, ?_⟩
    rw [if_neg (by simpa using he)] at h ⊢
    split
    · rename_i ht
      rw [if_pos ht] at h
      exact absurd h ht
    · rename_i ht
      simp only
      generalize hd : l.drop at_ = r at *
      have hbr : ∀ x ∈ r, x < 256 := fun x hx => hb x (by rw [← hd] at hx; exact List.mem_of_mem_drop hx)
      unfold takeB at ht ⊢
      by_cases h1 : (lookN r).2.2 = 0
      · rw [if_neg (by simp [h1])] at ht ⊢
        split
        · rename_i h4; rw [if_pos h4] at ht; simp at ht
        · rename_i h4
          rw [if_neg h4] at ht
          split
          · rename_i h5; rw [if_pos h5] at ht; simp at ht
          · rename_i h5
            simp only
            have e1 := look_one hbr h1
            have hk := lookN_len r
            have hlen : ((r.drop (lookN r).2.1).take (lookN r).1).length = (lookN r).1 := by rw [List.length_take, List.length_drop]; omega
            unfold encB
            rw [hlen, ← e1, List.append_assoc, ← List.drop_drop, hd]
            have : (r.drop (lookN r).2.1).take (lookN r).1 ++ r.drop ((lookN r).2.1 + (lookN r).1) = r.drop (lookN r).2.1 := by
              rw [← List.drop_drop, List.take_append_drop]
            rw [this, List.take_append_drop]
      · rw [if_pos (by simpa using h1)] at ht
        exact absurd h1 (by simpa using ht)
  · rw [if_pos (by simpa using he)] at h
    exact absurd h he
end Go.Proofs.Ytmpklplojfjfbaa
