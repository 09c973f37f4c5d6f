/- Plain law of layer 1: a number's bytes, read, are the number. No program in it, so there is no condition. -/
import Derived.Test.YtecolkpnllikaaaDoorReader
namespace Go.Proofs.YtecolkpnllikaaaDoor

theorem enc7_pos (f n : Nat) : 1 ≤ (enc7 f n).length := by
  cases f with
  | zero => simp [enc7]
  | succ f => unfold enc7; split <;> simp
theorem enc7_goOn : ∀ (f n g : Nat) (r : List Nat), n < 128 ^ (f + 1) → (enc7 f n).length ≤ g → goOn g (enc7 f n ++ r) = (enc7 f n).length - 1 := by
  intro f
  induction f with
  | zero =>
    intro n g r hn hg
    simp [enc7] at hg ⊢
    obtain ⟨g, rfl⟩ : ∃ g', g = g' + 1 := ⟨g - 1, by omega⟩
    have : n < 128 := by simpa using hn
    simp [goOn]; omega
  | succ f ih =>
    intro n g r hn hg
    have hp := enc7_pos (f + 1) n
    obtain ⟨g, rfl⟩ : ∃ g', g = g' + 1 := ⟨g - 1, by omega⟩
    by_cases h : n < 128
    · rw [enc7_small h]
      simp [goOn]; omega
    · rw [enc7_big h] at hg ⊢
      have h1 := ih (n / 128) g r (by rw [Nat.pow_succ] at hn; exact Nat.div_lt_of_lt_mul (by rw [Nat.mul_comm]; exact hn)) (by simpa using hg)
      have h2 := enc7_pos f (n / 128)
      simp only [List.cons_append, goOn]
      rw [if_pos (by omega), h1]
      simp; omega
theorem enc7_val : ∀ (f n : Nat), n < 128 ^ (f + 1) → valN (enc7 f n) = n := by
  intro f
  induction f with
  | zero => intro n hn; have : n < 128 := by simpa using hn
            simp [enc7, valN]; omega
  | succ f ih =>
    intro n hn
    by_cases h : n < 128
    · rw [enc7_small h]; simp [valN]; omega
    · rw [enc7_big h, valN, ih _ (by rw [Nat.pow_succ] at hn; exact Nat.div_lt_of_lt_mul (by rw [Nat.mul_comm]; exact hn))]
      omega
theorem enc7_last : ∀ (f n : Nat), n < 128 ^ (f + 1) → (enc7 f n).getD ((enc7 f n).length - 1) 0 = n / 128 ^ ((enc7 f n).length - 1) ∧ (1 < (enc7 f n).length → 128 ^ ((enc7 f n).length - 1) ≤ n) := by
  intro f
  induction f with
  | zero => intro n hn; simp [enc7]
  | succ f ih =>
    intro n hn
    by_cases h : n < 128
    · rw [enc7_small h]; simp
    · have hn' : n / 128 < 128 ^ (f + 1) := by rw [Nat.pow_succ] at hn; exact Nat.div_lt_of_lt_mul (by rw [Nat.mul_comm]; exact hn)
      obtain ⟨h1, h2⟩ := ih _ hn'
      have h3 := enc7_pos f (n / 128)
      rw [enc7_big h]
      obtain ⟨k, hk⟩ : ∃ k, (enc7 f (n / 128)).length = k + 1 := ⟨(enc7 f (n / 128)).length - 1, by omega⟩
      rw [hk] at h1 h2
      simp only [List.length_cons, hk, Nat.add_sub_cancel] at h1 h2 ⊢
      rw [List.getD_cons_succ, h1, Nat.div_div_eq_div_mul, Nat.pow_succ, Nat.mul_comm]
      refine ⟨rfl, fun _ => ?_⟩
      rcases Nat.eq_zero_or_pos k with hk0 | hk0
      · subst hk0; simp; omega
      · have h4 := h2 (by omega)
        have h5 : 128 * 128 ^ k ≤ 128 * (n / 128) := Nat.mul_le_mul_left _ h4
        rw [Nat.mul_comm 128 (128 ^ k)] at h5
        have h6 := Nat.mul_div_le n 128
        omega
theorem enc7_len_le : ∀ (j f n : Nat), n < 128 ^ (j + 1) → (enc7 f n).length ≤ j + 1 := by
  intro j
  induction j with
  | zero => intro f n hn; have : n < 128 := by simpa using hn
            rw [enc7_small this]; simp
  | succ j ih =>
    intro f n hn
    by_cases h : n < 128
    · rw [enc7_small h]; simp
    · cases f with
      | zero => simp [enc7]
      | succ f =>
        rw [enc7_big h]
        have := ih f (n / 128) (by rw [Nat.pow_succ] at hn; exact Nat.div_lt_of_lt_mul (by rw [Nat.mul_comm]; exact hn))
        simp; omega
theorem encN_look {n : Nat} (h : n < 18446744073709551616) (r : List Nat) : lookN (encN n ++ r) = (n, (encN n).length, 0) := by
  have h11 : n < 128 ^ 11 := Nat.lt_of_lt_of_le h (by decide)
  have hl : (encN n).length ≤ 10 := enc7_len_le 9 10 n (Nat.lt_of_lt_of_le h (by decide))
  have hp : 1 ≤ (encN n).length := enc7_pos 10 n
  have hg : goOn 10 (encN n ++ r) = (encN n).length - 1 := enc7_goOn 10 n 10 r h11 hl
  obtain ⟨hlast, hle⟩ := enc7_last 10 n h11
  have hv : valN (encN n) = n := enc7_val 10 n h11
  change (encN n).getD ((encN n).length - 1) 0 = _ at hlast
  change 1 < (encN n).length → _ at hle
  change _ = n / 128 ^ ((encN n).length - 1) at hlast
  change _ → 128 ^ ((encN n).length - 1) ≤ n at hle
  generalize encN n = l at *
  obtain ⟨k, hk⟩ : ∃ k, l.length = k + 1 := ⟨l.length - 1, by omega⟩
  rw [hk] at hlast hle hg
  simp only [Nat.add_sub_cancel] at hlast hle hg
  unfold lookN
  simp only [hg]
  rw [if_neg (by rw [List.length_append, hk]; omega)]
  have hget : (l ++ r).getD k 0 = n / 128 ^ k := by
    rw [List.getD_eq_getElem?_getD, List.getElem?_append_left (by omega), ← List.getD_eq_getElem?_getD, hlast]
  rw [hget]
  have hno : ¬ ((0 < k ∧ n / 128 ^ k = 0) ∨ (k = 9 ∧ 1 < n / 128 ^ k)) := by
    rintro (⟨h1, h2⟩ | ⟨h1, h2⟩)
    · have h3 := hle (by omega)
      have h4 : 1 ≤ n / 128 ^ k := (Nat.le_div_iff_mul_le (Nat.pow_pos (by omega))).2 (by omega)
      omega
    · subst h1
      have h5 : (128 : Nat) ^ 9 = 9223372036854775808 := by decide
      rw [h5] at h2
      omega
  rw [if_neg hno, List.take_append_of_le_length (by omega), List.take_of_length_le (by omega), hv, hk]
theorem take1_enc {n most : Nat} (h : n < 18446744073709551616) (r : List Nat) : take1 (encN n ++ r) most = if most < n then (0, 2, 0) else ((encN n).length, 0, n) := by
  unfold take1
  rw [encN_look h]
  simp
end Go.Proofs.YtecolkpnllikaaaDoor
