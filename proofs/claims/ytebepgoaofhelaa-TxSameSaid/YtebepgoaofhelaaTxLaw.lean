/- Plain law: what is decoded is encoded as just these bytes. No program in it, so there is no condition. -/
import Derived.Test.YtebepgoaofhelaaTxG
namespace Go.Proofs.Ytebepgoaofhelaa

theorem valN_enc7 : ∀ (k : Nat) (l : List Nat) (f : Nat), (∀ x ∈ l, x < 256) → k < l.length → (∀ j, j < k → 128 ≤ l.getD j 0) → l.getD k 0 < 128 → (k = 0 ∨ 1 ≤ l.getD k 0) → k ≤ f → enc7 f (valN (l.take (k + 1))) = l.take (k + 1) := by
  intro k
  induction k with
  | zero =>
    intro l f hb hk _ hlt _ _
    cases l with
    | nil => simp at hk
    | cons x l =>
      have hx : x < 128 := by simpa using hlt
      simp only [List.take_succ_cons, List.take_zero, valN]
      rw [show x % 128 + 128 * 0 = x by omega, enc7_small hx]
  | succ k ih =>
    intro l f hb hk hge hlt hnz hf
    cases l with
    | nil => simp at hk
    | cons x l =>
      have hx : 128 ≤ x := by simpa using hge 0 (by omega)
      have hx2 : x < 256 := hb x (by simp)
      obtain ⟨f, rfl⟩ : ∃ f', f = f' + 1 := ⟨f - 1, by omega⟩
      have hn1 : 1 ≤ l.getD k 0 := by
        rcases hnz with h | h
        · omega
        · simpa using h
      have h1 := ih l f (fun y hy => hb y (by simp [hy])) (by simpa using hk) (fun j hj => by simpa using hge (j + 1) (by omega)) (by simpa using hlt) (.inr hn1) (by omega)
      have hpos : 0 < valN (l.take (k + 1)) := by
        have hkl : k < l.length := by simpa using hk
        rw [take_nat hkl, valN_snoc]
        have h2 : 0 < 128 ^ (l.take k).length := Nat.pow_pos (by omega)
        have hlk : l.getD k 0 < 128 := by simpa using hlt
        rw [Nat.mod_eq_of_lt hlk]
        have h3 : 0 < 128 ^ (l.take k).length * l.getD k 0 := Nat.mul_pos h2 (by omega)
        omega
      have e : valN ((x :: l).take (k + 1 + 1)) = x % 128 + 128 * valN (l.take (k + 1)) := rfl
      rw [e, enc7_big (by omega)]
      rw [show (x % 128 + 128 * valN (l.take (k + 1))) % 128 + 128 = x by omega, show (x % 128 + 128 * valN (l.take (k + 1))) / 128 = valN (l.take (k + 1)) by omega, h1]
      rfl
theorem goOn_ge : ∀ (f : Nat) (l : List Nat) (j : Nat), j < goOn f l → 128 ≤ l.getD j 0 := by
  intro f
  induction f with
  | zero => intro l j h; simp [goOn] at h
  | succ f ih =>
    intro l j h
    cases l with
    | nil => simp [goOn] at h
    | cons b l =>
      unfold goOn at h
      split at h
      · cases j with
        | zero => simpa
        | succ j => simpa using ih l j (by omega)
      · omega
theorem goOn_at : ∀ (f : Nat) (l : List Nat), goOn f l < f → goOn f l < l.length → l.getD (goOn f l) 0 < 128 := by
  intro f
  induction f with
  | zero => intro l h; omega
  | succ f ih =>
    intro l h1 h2
    cases l with
    | nil => simp [goOn] at h2
    | cons b l =>
      unfold goOn at h1 h2 ⊢
      split
      · rename_i hb
        rw [if_pos hb] at h1 h2
        simpa using ih l (by omega) (by simpa using h2)
      · simp; omega
/-- One writing: what a number is read of is its bytes. -/
theorem look_one {l : List Nat} (hb : ∀ x ∈ l, x < 256) (h : (lookN l).2.2 = 0) : l.take (lookN l).2.1 = encN (lookN l).1 := by
  have hle := goOn_le 10 l
  have hge := goOn_ge 10 l
  unfold lookN at h ⊢
  simp only at h ⊢
  split
  · rename_i h1
    rw [if_pos h1] at h
    split at h <;> simp at h
  · rename_i h1
    rw [if_neg h1] at h
    split
    · rename_i h2; rw [if_pos h2] at h; simp at h
    · rename_i h2
      simp only
      have h3 := goOn_at 10 l (by omega) (by omega)
      exact (valN_enc7 (goOn 10 l) l 10 hb (by omega) hge h3 (by
        rcases Nat.eq_zero_or_pos (goOn 10 l) with h4 | h4
        · exact .inl h4
        · right
          have : ¬ l.getD (goOn 10 l) 0 = 0 := fun e => h2 (.inl ⟨h4, e⟩)
          omega) (by omega)).symm
/-- A read that went well took just the number's bytes. -/
theorem numRS_one {s : RS} {m : Nat} (hb : ∀ x ∈ s.l, x < 256) (h : (numRS s m).1.err = 0) : s.err = 0 ∧ s.l.drop s.at_ = encN (numRS s m).2 ++ s.l.drop (numRS s m).1.at_ := by
  obtain ⟨l, at_, err⟩ := s
  unfold numRS at h ⊢
  by_cases he : err = 0
  · refine ⟨he, ?_⟩
    rw [if_neg (by simpa using he)] at h ⊢
    split
    · rename_i ht
      rw [if_pos ht] at h
      exact absurd h ht
    · rename_i ht
      simp only
      have h1 : (lookN (l.drop at_)).2.2 = 0 := by
        unfold take1 at ht
        split at ht
        · simpa using ht
        · rename_i h2; simpa using h2
      have h3 : take1 (l.drop at_) m = ((lookN (l.drop at_)).2.1, 0, (lookN (l.drop at_)).1) := by
        unfold take1 at ht ⊢
        rw [if_neg (by simp [h1])] at ht ⊢
        split
        · rename_i h4; rw [if_pos h4] at ht; simp at ht
        · rfl
      rw [h3]
      simp only
      rw [← look_one (fun x hx => hb x (List.mem_of_mem_drop hx)) h1, ← List.drop_drop, List.take_append_drop]
  · rw [if_pos (by simpa using he)] at h
    exact absurd h he
theorem bytesRS_one {s : RS} {m : Nat} (hb : ∀ x ∈ s.l, x < 256) (h : (bytesRS s m).1.err = 0) : s.err = 0 ∧ s.l.drop s.at_ = encB (bytesRS s m).2 ++ s.l.drop (bytesRS s m).1.at_ := by
  obtain ⟨l, at_, err⟩ := s
  unfold bytesRS at h ⊢
  by_cases he : err = 0
  · refine ⟨he, ?_⟩
    rw [if_neg (by simpa using he)] at h ⊢
    split
    · rename_i ht
      rw [if_pos ht] at h
      exact absurd h ht
    · rename_i ht
      simp only
      generalize hd : l.drop at_ = r at *
      have hbr : ∀ x ∈ r, x < 256 := fun x hx => hb x (by rw [← hd] at hx; exact List.mem_of_mem_drop hx)
      unfold takeB at ht ⊢
      by_cases h1 : (lookN r).2.2 = 0
      · rw [if_neg (by simp [h1])] at ht ⊢
        split
        · rename_i h4; rw [if_pos h4] at ht; simp at ht
        · rename_i h4
          rw [if_neg h4] at ht
          split
          · rename_i h5; rw [if_pos h5] at ht; simp at ht
          · rename_i h5
            simp only
            have e1 := look_one hbr h1
            have hk := lookN_len r
            have hlen : ((r.drop (lookN r).2.1).take (lookN r).1).length = (lookN r).1 := by rw [List.length_take, List.length_drop]; omega
            unfold encB
            rw [hlen, ← e1, List.append_assoc, ← List.drop_drop, hd]
            have : (r.drop (lookN r).2.1).take (lookN r).1 ++ r.drop ((lookN r).2.1 + (lookN r).1) = r.drop (lookN r).2.1 := by
              rw [← List.drop_drop, List.take_append_drop]
            rw [this, List.take_append_drop]
      · rw [if_pos (by simpa using h1)] at ht
        exact absurd h1 (by simpa using ht)
  · rw [if_pos (by simpa using he)] at h
    exact absurd h he
theorem u64_nat {v : Nat} (h : v < 18446744073709551616) : u64N (v : Int) = v := by rw [u64N_in (by omega) (by omega)]; simp
/-- What is decoded, encoded, is these bytes. -/
theorem dec_bytes {b : List Nat} (hb : ∀ x ∈ b, x < 256) (h : derr b = 0) : bytesT (decT b).d (decT b).no (decT b).fe (decT b).ki (decT b).bo (decT b).si = b ∧ checkT (decT b).no (decT b).fe (decT b).ki (decT b).bo (decT b).si = 0 := by
  have hd : decT b = ⟨D8.of (df b).2, (dn b).2, (de b).2, (dk b).2, (db b).2, (ds b).2⟩ := by unfold decT; rw [if_pos h]
  have hend : endRS (ds b).1 = 0 := by
    unfold derr at h
    split at h
    · assumption
    · exact h
  have hchk : checkT (dn b).2 (de b).2 (dk b).2 (db b).2 (ds b).2 = 0 := by unfold derr at h; rw [if_pos hend] at h; exact h
  have herr : (ds b).1.err = 0 ∧ (ds b).1.l.length ≤ (ds b).1.at_ := by
    unfold endRS at hend
    split at hend
    · rename_i h1; exact absurd hend h1
    · rename_i h1
      split at hend
      · simp at hend
      · exact ⟨by simpa using h1, by omega⟩
  have F1 : (dk b).1.l = b := numRS_l _ _
  have F2 : (df b).1.l = b := (numRS_l _ _).trans F1
  have F3 : (dn b).1.l = b := (numRS_l _ _).trans F2
  have F4 : (de b).1.l = b := (numRS_l _ _).trans F3
  have F5 : (db b).1.l = b := (bytesRS_l _ _).trans F4
  have F6 : (ds b).1.l = b := (bytesRS_l _ _).trans F5
  have s6 := bytesRS_one (s := (db b).1) (m := 1024) (by rw [F5]; exact hb) herr.1
  have s5 := bytesRS_one (s := (de b).1) (m := 32768) (by rw [F4]; exact hb) s6.1
  have s4 := numRS_one (s := (dn b).1) (m := 1125899906842624) (by rw [F3]; exact hb) s5.1
  have s3 := numRS_one (s := (df b).1) (m := 1099511627776) (by rw [F2]; exact hb) s4.1
  have s2 := numRS_one (s := (dk b).1) (m := 18446744073709551615) (by rw [F1]; exact hb) s3.1
  have s1 := numRS_one (s := ⟨b, 0, 0⟩) (m := 2) hb s2.1
  have t1 := s1.2; have t2 := s2.2; have t3 := s3.2; have t4 := s4.2; have t5 := s5.2; have t6 := s6.2
  change List.drop 0 b = encN (dk b).2 ++ List.drop (dk b).1.at_ b at t1
  rw [F1] at t2
  change List.drop (dk b).1.at_ b = encN (df b).2 ++ List.drop (df b).1.at_ b at t2
  rw [F2] at t3
  change List.drop (df b).1.at_ b = encN (dn b).2 ++ List.drop (dn b).1.at_ b at t3
  rw [F3] at t4
  change List.drop (dn b).1.at_ b = encN (de b).2 ++ List.drop (de b).1.at_ b at t4
  rw [F4] at t5
  change List.drop (de b).1.at_ b = encB (db b).2 ++ List.drop (db b).1.at_ b at t5
  rw [F5] at t6
  change List.drop (db b).1.at_ b = encB (ds b).2 ++ List.drop (ds b).1.at_ b at t6
  have e6 : List.drop (ds b).1.at_ b = [] := List.drop_of_length_le (by have := herr.2; rw [F6] at this; exact this)
  have v1 := numRS_le ⟨b, 0, 0⟩ 2
  have v2 := numRS_le (dk b).1 18446744073709551615
  have v3 := numRS_le (df b).1 1099511627776
  have v4 := numRS_le (dn b).1 1125899906842624
  change (dk b).2 ≤ 2 at v1
  change (df b).2 ≤ 18446744073709551615 at v2
  change (dn b).2 ≤ 1099511627776 at v3
  change (de b).2 ≤ 1125899906842624 at v4
  rw [hd]
  refine ⟨?_, hchk⟩
  simp only [bytesT, headT]
  rw [u64_nat (by omega), u64_nat (by omega), u64_nat (by omega), D8.num_of (by omega)]
  rw [e6, List.append_nil] at t6
  rw [List.drop_zero] at t1
  rw [t6] at t5
  rw [t5] at t4
  rw [t4] at t3
  rw [t3] at t2
  rw [t2] at t1
  simp only [List.append_assoc]
  exact t1.symm
end Go.Proofs.Ytebepgoaofhelaa
