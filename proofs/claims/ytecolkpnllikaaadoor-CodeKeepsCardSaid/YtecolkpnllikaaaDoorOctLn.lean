/- Plain laws of layer 1's numbers: what is read is what was put, and there is one writing. No program in them, so there is no condition. -/
import Derived.Test.YtecolkpnllikaaaDoorEncLaw
import Derived.Test.YtecolkpnllikaaaDoorRefNum
namespace Go.Proofs.YtecolkpnllikaaaDoor
theorem numRS_take1 {l : List Nat} {at_ most : Nat} {k v : Nat} (h : take1 (l.drop at_) most = (k, 0, v)) : numRS ⟨l, at_, 0⟩ most = (⟨l, at_ + k, 0⟩, v) := by
  unfold numRS; simp [h]
theorem numRS_step {l : List Nat} {at_ v most : Nat} {r : List Nat} (hd : l.drop at_ = encN v ++ r) (hv : v < 18446744073709551616) (hm : v ≤ most) :
    numRS ⟨l, at_, 0⟩ most = (⟨l, at_ + (encN v).length, 0⟩, v) ∧ l.drop (at_ + (encN v).length) = r :=
  ⟨numRS_take1 (by rw [hd, take1_enc hv, if_neg (by omega)]), by rw [← List.drop_drop, hd, List.drop_left]⟩
theorem valN_enc7 : ∀ (k : Nat) (l : List Nat) (f : Nat), (∀ x ∈ l, x < 256) → k < l.length → (∀ j, j < k → 128 ≤ l.getD j 0) → l.getD k 0 < 128 → (k = 0 ∨ 1 ≤ l.getD k 0) → k ≤ f → enc7 f (valN (l.take (k + 1))) = l.take (k + 1) := by
  intro k
  induction k with
  | zero =>
    intro l f hb hk _ hlt _ _
    cases l with
    | nil => simp at hk
    | cons x l =>
      have hx : x < 128 := by simpa using hlt
      simp only [List.take_succ_cons, List.take_zero, valN]
      rw [show x % 128 + 128 * 0 = x by omega, enc7_small hx]
  | succ k ih =>
    intro l f hb hk hge hlt hnz hf
    cases l with
    | nil => simp at hk
    | cons x l =>
      have hx : 128 ≤ x := by simpa using hge 0 (by omega)
      have hx2 : x < 256 := hb x (by simp)
      obtain ⟨f, rfl⟩ : ∃ f', f = f' + 1 := ⟨f - 1, by omega⟩
      have hn1 : 1 ≤ l.getD k 0 := by
        rcases hnz with h | h
        · omega
        · simpa using h
      have h1 := ih l f (fun y hy => hb y (by simp [hy])) (by simpa using hk) (fun j hj => by simpa using hge (j + 1) (by omega)) (by simpa using hlt) (.inr hn1) (by omega)
      have hpos : 0 < valN (l.take (k + 1)) := by
        have hkl : k < l.length := by simpa using hk
        rw [take_nat hkl, valN_snoc]
        have h2 : 0 < 128 ^ (l.take k).length := Nat.pow_pos (by omega)
        have hlk : l.getD k 0 < 128 := by simpa using hlt
        rw [Nat.mod_eq_of_lt hlk]
        have h3 : 0 < 128 ^ (l.take k).length * l.getD k 0 := Nat.mul_pos h2 (by omega)
        omega
      have e : valN ((x :: l).take (k + 1 + 1)) = x % 128 + 128 * valN (l.take (k + 1)) := rfl
      rw [e, enc7_big (by omega)]
      rw [show (x % 128 + 128 * valN (l.take (k + 1))) % 128 + 128 = x by omega, show (x % 128 + 128 * valN (l.take (k + 1))) / 128 = valN (l.take (k + 1)) by omega, h1]
      rfl
theorem goOn_ge : ∀ (f : Nat) (l : List Nat) (j : Nat), j < goOn f l → 128 ≤ l.getD j 0 := by
  intro f
  induction f with
  | zero => intro l j h; simp [goOn] at h
  | succ f ih =>
    intro l j h
    cases l with
    | nil => simp [goOn] at h
    | cons b l =>
      unfold goOn at h
      split at h
      · cases j with
        | zero => simpa
        | succ j => simpa using ih l j (by omega)
      · omega
theorem goOn_at : ∀ (f : Nat) (l : List Nat), goOn f l < f → goOn f l < l.length → l.getD (goOn f l) 0 < 128 := by
  intro f
  induction f with
  | zero => intro l h; omega
  | succ f ih =>
    intro l h1 h2
    cases l with
    | nil => simp [goOn] at h2
    | cons b l =>
      unfold goOn at h1 h2 ⊢
      split
      · rename_i hb
        rw [if_pos hb] at h1 h2
        simpa using ih l (by omega) (by simpa using h2)
      · simp; omega
/-- One writing: what a number is read of is its bytes. -/
theorem look_one {l : List Nat} (hb : ∀ x ∈ l, x < 256) (h : (lookN l).2.2 = 0) : l.take (lookN l).2.1 = encN (lookN l).1 := by
  have hle := goOn_le 10 l
  have hge := goOn_ge 10 l
  unfold lookN at h ⊢
  simp only at h ⊢
  split
  · rename_i h1
    rw [if_pos h1] at h
    split at h <;> simp at h
  · rename_i h1
    rw [if_neg h1] at h
    split
    · rename_i h2; rw [if_pos h2] at h; simp at h
    · rename_i h2
      simp only
      have h3 := goOn_at 10 l (by omega) (by omega)
      exact (valN_enc7 (goOn 10 l) l 10 hb (by omega) hge h3 (by
        rcases Nat.eq_zero_or_pos (goOn 10 l) with h4 | h4
        · exact .inl h4
        · right
          have : ¬ l.getD (goOn 10 l) 0 = 0 := fun e => h2 (.inl ⟨h4, e⟩)
          omega) (by omega)).symm
/-- A read that went well took just the number's bytes. -/
theorem numRS_one {s : RS} {m : Nat} (hb : ∀ x ∈ s.l, x < 256) (h : (numRS s m).1.err = 0) : s.err = 0 ∧ s.l.drop s.at_ = encN (numRS s m).2 ++ s.l.drop (numRS s m).1.at_ := by
  obtain ⟨l, at_, err⟩ := s
  unfold numRS at h ⊢
  by_cases he : err = 0
  · refine ⟨he, ?_⟩
    rw [if_neg (by simpa using he)] at h ⊢
    split
    · rename_i ht
      rw [if_pos ht] at h
      exact absurd h ht
    · rename_i ht
      simp only
      have h1 : (lookN (l.drop at_)).2.2 = 0 := by
        unfold take1 at ht
        split at ht
        · simpa using ht
        · rename_i h2; simpa using h2
      have h3 : take1 (l.drop at_) m = ((lookN (l.drop at_)).2.1, 0, (lookN (l.drop at_)).1) := by
        unfold take1 at ht ⊢
        rw [if_neg (by simp [h1])] at ht ⊢
        split
        · rename_i h4; rw [if_pos h4] at ht; simp at ht
        · rfl
      rw [h3]
      simp only
      rw [← look_one (fun x hx => hb x (List.mem_of_mem_drop hx)) h1, ← List.drop_drop, List.take_append_drop]
  · rw [if_pos (by simpa using he)] at h
    exact absurd h he
end Go.Proofs.YtecolkpnllikaaaDoor
