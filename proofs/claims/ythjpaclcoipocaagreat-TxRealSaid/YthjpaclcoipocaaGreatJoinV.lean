/- Plain law of layer 1: a number's bytes, read, are the number. No program in it, so there is no condition. Plain laws of layer 1's numbers: what is read is what was put, and there is one writing. No program in them, so there is no condition. -/
import Derived.Test.YthjpaclcoipocaaGreatJoinA
namespace Go.Proofs.YthjpaclcoipocaaGreat

theorem enc7_pos (f n : Nat) : 1 ≤ (enc7 f n).length := by
  cases f with
  | zero => simp [enc7]
  | succ f => unfold enc7; split <;> simp
theorem enc7_goOn : ∀ (f n g : Nat) (r : List Nat), n < 128 ^ (f + 1) → (enc7 f n).length ≤ g → goOn g (enc7 f n ++ r) = (enc7 f n).length - 1 := by
  intro f
  induction f with
  | zero =>
    intro n g r hn hg
    simp [enc7] at hg ⊢
    obtain ⟨g, rfl⟩ : ∃ g', g = g' + 1 := ⟨g - 1, by omega⟩
    have : n < 128 := by simpa using hn
    simp [goOn]; omega
  | succ f ih =>
    intro n g r hn hg
    have hp := enc7_pos (f + 1) n
    obtain ⟨g, rfl⟩ : ∃ g', g = g' + 1 := ⟨g - 1, by omega⟩
    by_cases h : n < 128
    · rw [enc7_small h]
      simp [goOn]; omega
    · rw [enc7_big h] at hg ⊢
      have h1 := ih (n / 128) g r (by rw [Nat.pow_succ] at hn; exact Nat.div_lt_of_lt_mul (by rw [Nat.mul_comm]; exact hn)) (by simpa using hg)
      have h2 := enc7_pos f (n / 128)
      simp only [List.cons_append, goOn]
      rw [if_pos (by omega), h1]
      simp; omega
theorem enc7_val : ∀ (f n : Nat), n < 128 ^ (f + 1) → valN (enc7 f n) = n := by
  intro f
  induction f with
  | zero => intro n hn; have : n < 128 := by simpa using hn
            simp [enc7, valN]; omega
  | succ f ih =>
    intro n hn
    by_cases h : n < 128
    · rw [enc7_small h]; simp [valN]; omega
    · rw [enc7_big h, valN, ih _ (by rw [Nat.pow_succ] at hn; exact Nat.div_lt_of_lt_mul (by rw [Nat.mul_comm]; exact hn))]
      omega
theorem enc7_last : ∀ (f n : Nat), n < 128 ^ (f + 1) → (enc7 f n).getD ((enc7 f n).length - 1) 0 = n / 128 ^ ((enc7 f n).length - 1) ∧ (1 < (enc7 f n).length → 128 ^ ((enc7 f n).length - 1) ≤ n) := by
  intro f
  induction f with
  | zero => intro n hn; simp [enc7]
  | succ f ih =>
    intro n hn
    by_cases h : n < 128
    · rw [enc7_small h]; simp
    · have hn' : n / 128 < 128 ^ (f + 1) := by rw [Nat.pow_succ] at hn; exact Nat.div_lt_of_lt_mul (by rw [Nat.mul_comm]; exact hn)
      obtain ⟨h1, h2⟩ := ih _ hn'
      have h3 := enc7_pos f (n / 128)
      rw [enc7_big h]
      obtain ⟨k, hk⟩ : ∃ k, (enc7 f (n / 128)).length = k + 1 := ⟨(enc7 f (n / 128)).length - 1, by omega⟩
      rw [hk] at h1 h2
      simp only [List.length_cons, hk, Nat.add_sub_cancel] at h1 h2 ⊢
      rw [List.getD_cons_succ, h1, Nat.div_div_eq_div_mul, Nat.pow_succ, Nat.mul_comm]
      refine ⟨rfl, fun _ => ?_⟩
      rcases Nat.eq_zero_or_pos k with hk0 | hk0
      · subst hk0; simp; omega
      · have h4 := h2 (by omega)
        have h5 : 128 * 128 ^ k ≤ 128 * (n / 128) := Nat.mul_le_mul_left _ h4
        rw [Nat.mul_comm 128 (128 ^ k)] at h5
        have h6 := Nat.mul_div_le n 128
        omega
theorem enc7_len_le : ∀ (j f n : Nat), n < 128 ^ (j + 1) → (enc7 f n).length ≤ j + 1 := by
  intro j
  induction j with
  | zero => intro f n hn; have : n < 128 := by simpa using hn
            rw [enc7_small this]; simp
  | succ j ih =>
    intro f n hn
    by_cases h : n < 128
    · rw [enc7_small h]; simp
    · cases f with
      | zero => simp [enc7]
      | succ f =>
        rw [enc7_big h]
        have := ih f (n / 128) (by rw [Nat.pow_succ] at hn; exact Nat.div_lt_of_lt_mul (by rw [Nat.mul_comm]; exact hn))
        simp; omega
theorem encN_look {n : Nat} (h : n < 18446744073709551616) (r : List Nat) : lookN (encN n ++ r) = (n, (encN n).length, 0) := by
  have h11 : n < 128 ^ 11 := Nat.lt_of_lt_of_le h (by decide)
  have hl : (encN n).length ≤ 10 := enc7_len_le 9 10 n (Nat.lt_of_lt_of_le h (by decide))
  have hp : 1 ≤ (encN n).length := enc7_pos 10 n
  have hg : goOn 10 (encN n ++ r) = (encN n).length - 1 := enc7_goOn 10 n 10 r h11 hl
  obtain ⟨hlast, hle⟩ := enc7_last 10 n h11
  have hv : valN (encN n) = n := enc7_val 10 n h11
  change (encN n).getD ((encN n).length - 1) 0 = _ at hlast
  change 1 < (encN n).length → _ at hle
  change _ = n / 128 ^ ((encN n).length - 1) at hlast
  change _ → 128 ^ ((encN n).length - 1) ≤ n at hle
  generalize encN n = l at *
  obtain ⟨k, hk⟩ : ∃ k, l.length = k + 1 := ⟨l.length - 1, by omega⟩
  rw [hk] at hlast hle hg
  simp only [Nat.add_sub_cancel] at hlast hle hg
  unfold lookN
  simp only [hg]
  rw [if_neg (by rw [List.length_append, hk]; omega)]
  have hget : (l ++ r).getD k 0 = n / 128 ^ k := by
    rw [List.getD_eq_getElem?_getD, List.getElem?_append_left (by omega), ← List.getD_eq_getElem?_getD, hlast]
  rw [hget]
  have hno : ¬ ((0 < k ∧ n / 128 ^ k = 0) ∨ (k = 9 ∧ 1 < n / 128 ^ k)) := by
    rintro (⟨h1, h2⟩ | ⟨h1, h2⟩)
    · have h3 := hle (by omega)
      have h4 : 1 ≤ n / 128 ^ k := (Nat.le_div_iff_mul_le (Nat.pow_pos (by omega))).2 (by omega)
      omega
    · subst h1
      have h5 : (128 : Nat) ^ 9 = 9223372036854775808 := by decide
      rw [h5] at h2
      omega
  rw [if_neg hno, List.take_append_of_le_length (by omega), List.take_of_length_le (by omega), hv, hk]
theorem take1_enc {n most : Nat} (h : n < 18446744073709551616) (r : List Nat) : take1 (encN n ++ r) most = if most < n then (0, 2, 0) else ((encN n).length, 0, n) := by
  unfold take1
  rw [encN_look h]
  simp
end Go.Proofs.YthjpaclcoipocaaGreat
namespace Go.Proofs.YthjpaclcoipocaaGreat
theorem numRS_take1 {l : List Nat} {at_ most : Nat} {k v : Nat} (h : take1 (l.drop at_) most = (k, 0, v)) : numRS ⟨l, at_, 0⟩ most = (⟨l, at_ + k, 0⟩, v) := by
  unfold numRS; simp [h]
theorem numRS_step {l : List Nat} {at_ v most : Nat} {r : List Nat} (hd : l.drop at_ = encN v ++ r) (hv : v < 18446744073709551616) (hm : v ≤ most) :
    numRS ⟨l, at_, 0⟩ most = (⟨l, at_ + (encN v).length, 0⟩, v) ∧ l.drop (at_ + (encN v).length) = r :=
  ⟨numRS_take1 (by rw [hd, take1_enc hv, if_neg (by omega)]), by rw [← List.drop_drop, hd, List.drop_left]⟩
theorem valN_enc7 : ∀ (k : Nat) (l : List Nat) (f : Nat), (∀ x ∈ l, x < 256) → k < l.length → (∀ j, j < k → 128 ≤ l.getD j 0) → l.getD k 0 < 128 → (k = 0 ∨ 1 ≤ l.getD k 0) → k ≤ f → enc7 f (valN (l.take (k + 1))) = l.take (k + 1) := by
  intro k
  induction k with
  | zero =>
    intro l f hb hk _ hlt _ _
    cases l with
    | nil => simp at hk
    | cons x l =>
      have hx : x < 128 := by simpa using hlt
      simp only [List.take_succ_cons, List.take_zero, valN]
      rw [show x % 128 + 128 * 0 = x by omega, enc7_small hx]
  | succ k ih =>
    intro l f hb hk hge hlt hnz hf
    cases l with
    | nil => simp at hk
    | cons x l =>
      have hx : 128 ≤ x := by simpa using hge 0 (by omega)
      have hx2 : x < 256 := hb x (by simp)
      obtain ⟨f, rfl⟩ : ∃ f', f = f' + 1 := ⟨f - 1, by omega⟩
      have hn1 : 1 ≤ l.getD k 0 := by
        rcases hnz with h | h
        · omega
        · simpa using h
      have h1 := ih l f (fun y hy => hb y (by simp [hy])) (by simpa using hk) (fun j hj => by simpa using hge (j + 1) (by omega)) (by simpa using hlt) (.inr hn1) (by omega)
      have hpos : 0 < valN (l.take (k + 1)) := by
        have hkl : k < l.length := by simpa using hk
        rw [take_nat hkl, valN_snoc]
        have h2 : 0 < 128 ^ (l.take k).length := Nat.pow_pos (by omega)
        have hlk : l.getD k 0 < 128 := by simpa using hlt
        rw [Nat.mod_eq_of_lt hlk]
        have h3 : 0 < 128 ^ (l.take k).length * l.getD k 0 := Nat.mul_pos h2 (by omega)
        omega
      have e : valN ((x :: l).take (k + 1 + 1)) = x % 128 + 128 * valN (l.take (k + 1)) := rfl
      rw [e, enc7_big (by omega)]
      rw [show (x % 128 + 128 * valN (l.take (k + 1))) % 128 + 128 = x by omega, show (x % 128 + 128 * valN (l.take (k + 1))) / 128 = valN (l.take (k + 1)) by omega, h1]
      rfl
theorem goOn_ge : ∀ (f : Nat) (l : List Nat) (j : Nat), j < goOn f l → 128 ≤ l.getD j 0 := by
  intro f
  induction f with
  | zero => intro l j h; simp [goOn] at h
  | succ f ih =>
    intro l j h
    cases l with
    | nil => simp [goOn] at h
    | cons b l =>
      unfold goOn at h
      split at h
      · cases j with
        | zero => simpa
        | succ j => simpa using ih l j (by omega)
      · omega
theorem goOn_at : ∀ (f : Nat) (l : List Nat), goOn f l < f → goOn f l < l.length → l.getD (goOn f l) 0 < 128 := by
  intro f
  induction f with
  | zero => intro l h; omega
  | succ f ih =>
    intro l h1 h2
    cases l with
    | nil => simp [goOn] at h2
    | cons b l =>
      unfold goOn at h1 h2 ⊢
      split
      · rename_i hb
        rw [if_pos hb] at h1 h2
        simpa using ih l (by omega) (by simpa using h2)
      · simp; omega
/-- One writing: what a number is read of is its bytes. -/
theorem look_one {l : List Nat} (hb : ∀ x ∈ l, x < 256) (h : (lookN l).2.2 = 0) : l.take (lookN l).2.1 = encN (lookN l).1 := by
  have hle := goOn_le 10 l
  have hge := goOn_ge 10 l
  unfold lookN at h ⊢
  simp only at h ⊢
  split
  · rename_i h1
    rw [if_pos h1] at h
    split at h <;> simp at h
  · rename_i h1
    rw [if_neg h1] at h
    split
    · rename_i h2; rw [if_pos h2] at h; simp at h
    · rename_i h2
      simp only
      have h3 := goOn_at 10 l (by omega) (by omega)
      exact (valN_enc7 (goOn 10 l) l 10 hb (by omega) hge h3 (by
        rcases Nat.eq_zero_or_pos (goOn 10 l) with h4 | h4
        · exact .inl h4
        · right
          have : ¬ l.getD (goOn 10 l) 0 = 0 := fun e => h2 (.inl ⟨h4, e⟩)
          omega) (by omega)).symm
/-- A read that went well took just the number's bytes. -/
theorem numRS_one {s : RS} {m : Nat} (hb : ∀ x ∈ s.l, x < 256) (h : (numRS s m).1.err = 0) : s.err = 0 ∧ s.l.drop s.at_ = encN (numRS s m).2 ++ s.l.drop (numRS s m).1.at_ := by
  obtain ⟨l, at_, err⟩ := s
  unfold numRS at h ⊢
  by_cases he : err = 0
  · refine ⟨he, ?_⟩
    rw [if_neg (by simpa using he)] at h ⊢
    split
    · rename_i ht
      rw [if_pos ht] at h
      exact absurd h ht
    · rename_i ht
      simp only
      have h1 : (lookN (l.drop at_)).2.2 = 0 := by
        unfold take1 at ht
        split at ht
        · simpa using ht
        · rename_i h2; simpa using h2
      have h3 : take1 (l.drop at_) m = ((lookN (l.drop at_)).2.1, 0, (lookN (l.drop at_)).1) := by
        unfold take1 at ht ⊢
        rw [if_neg (by simp [h1])] at ht ⊢
        split
        · rename_i h4; rw [if_pos h4] at ht; simp at ht
        · rfl
      rw [h3]
      simp only
      rw [← look_one (fun x hx => hb x (List.mem_of_mem_drop hx)) h1, ← List.drop_drop, List.take_append_drop]
  · rw [if_pos (by simpa using he)] at h
    exact absurd h he
end Go.Proofs.YthjpaclcoipocaaGreat
