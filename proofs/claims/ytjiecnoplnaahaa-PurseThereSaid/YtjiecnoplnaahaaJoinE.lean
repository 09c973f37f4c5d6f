/- Plain law of layer 1: a number's bytes, read, are the number. No program in it, so there is no condition. Plain laws of layer 1's numbers: what is read is what was put, and there is one writing. No program in them, so there is no condition. Plain laws of layer 1's bytes: what is read is what was put, and there is one writing. No program in them, so there is no condition. Plain law: the bytes of a purse that may be are read as just it, and what is read, told again, is these bytes. No program in it, so there is no condition. -/
import Derived.Test.YtjiecnoplnaahaaJoinA
import Derived.Test.YtjiecnoplnaahaaPuDe
namespace Go.Proofs.Ytjiecnoplnaahaa

theorem enc7_pos (f n : Nat) : 1 ≤ (enc7 f n).length := by
  cases f with
  | zero => simp [enc7]
  | succ f => unfold enc7; split <;> simp
theorem enc7_goOn : ∀ (f n g : Nat) (r : List Nat), n < 128 ^ (f + 1) → (enc7 f n).length ≤ g → goOn g (enc7 f n ++ r) = (enc7 f n).length - 1 := by
  intro f
  induction f with
  | zero =>
    intro n g r hn hg
    simp [enc7] at hg ⊢
    obtain ⟨g, rfl⟩ : ∃ g', g = g' + 1 := ⟨g - 1, by omega⟩
    have : n < 128 := by simpa using hn
    simp [goOn]; omega
  | succ f ih =>
    intro n g r hn hg
    have hp := enc7_pos (f + 1) n
    obtain ⟨g, rfl⟩ : ∃ g', g = g' + 1 := ⟨g - 1, by omega⟩
    by_cases h : n < 128
    · rw [enc7_small h]
      simp [goOn]; omega
    · rw [enc7_big h] at hg ⊢
      have h1 := ih (n / 128) g r (by rw [Nat.pow_succ] at hn; exact Nat.div_lt_of_lt_mul (by rw [Nat.mul_comm]; exact hn)) (by simpa using hg)
      have h2 := enc7_pos f (n / 128)
      simp only [List.cons_append, goOn]
      rw [if_pos (by omega), h1]
      simp; omega
theorem enc7_val : ∀ (f n : Nat), n < 128 ^ (f + 1) → valN (enc7 f n) = n := by
  intro f
  induction f with
  | zero => intro n hn; have : n < 128 := by simpa using hn
            simp [enc7, valN]; omega
  | succ f ih =>
    intro n hn
    by_cases h : n < 128
    · rw [enc7_small h]; simp [valN]; omega
    · rw [enc7_big h, valN, ih _ (by rw [Nat.pow_succ] at hn; exact Nat.div_lt_of_lt_mul (by rw [Nat.mul_comm]; exact hn))]
      omega
theorem enc7_last : ∀ (f n : Nat), n < 128 ^ (f + 1) → (enc7 f n).getD ((enc7 f n).length - 1) 0 = n / 128 ^ ((enc7 f n).length - 1) ∧ (1 < (enc7 f n).length → 128 ^ ((enc7 f n).length - 1) ≤ n) := by
  intro f
  induction f with
  | zero => intro n hn; simp [enc7]
  | succ f ih =>
    intro n hn
    by_cases h : n < 128
    · rw [enc7_small h]; simp
    · have hn' : n / 128 < 128 ^ (f + 1) := by rw [Nat.pow_succ] at hn; exact Nat.div_lt_of_lt_mul (by rw [Nat.mul_comm]; exact hn)
      obtain ⟨h1, h2⟩ := ih _ hn'
      have h3 := enc7_pos f (n / 128)
      rw [enc7_big h]
      obtain ⟨k, hk⟩ : ∃ k, (enc7 f (n / 128)).length = k + 1 := ⟨(enc7 f (n / 128)).length - 1, by omega⟩
      rw [hk] at h1 h2
      simp only [List.length_cons, hk, Nat.add_sub_cancel] at h1 h2 ⊢
      rw [List.getD_cons_succ, h1, Nat.div_div_eq_div_mul, Nat.pow_succ, Nat.mul_comm]
      refine ⟨rfl, fun _ => ?_⟩
      rcases Nat.eq_zero_or_pos k with hk0 | hk0
      · subst hk0; simp; omega
      · have h4 := h2 (by omega)
        have h5 : 128 * 128 ^ k ≤ 128 * (n / 128) := Nat.mul_le_mul_left _ h4
        rw [Nat.mul_comm 128 (128 ^ k)] at h5
        have h6 := Nat.mul_div_le n 128
        omega
theorem enc7_len_le : ∀ (j f n : Nat), n < 128 ^ (j + 1) → (enc7 f n).length ≤ j + 1 := by
  intro j
  induction j with
  | zero => intro f n hn; have : n < 128 := by simpa using hn
            rw [enc7_small this]; simp
  | succ j ih =>
    intro f n hn
    by_cases h : n < 128
    · rw [enc7_small h]; simp
    · cases f with
      | zero => simp [enc7]
      | succ f =>
        rw [enc7_big h]
        have := ih f (n / 128) (by rw [Nat.pow_succ] at hn; exact Nat.div_lt_of_lt_mul (by rw [Nat.mul_comm]; exact hn))
        simp; omega
theorem encN_look {n : Nat} (h : n < 18446744073709551616) (r : List Nat) : lookN (encN n ++ r) = (n, (encN n).length, 0) := by
  have h11 : n < 128 ^ 11 := Nat.lt_of_lt_of_le h (by decide)
  have hl : (encN n).length ≤ 10 := enc7_len_le 9 10 n (Nat.lt_of_lt_of_le h (by decide))
  have hp : 1 ≤ (encN n).length := enc7_pos 10 n
  have hg : goOn 10 (encN n ++ r) = (encN n).length - 1 := enc7_goOn 10 n 10 r h11 hl
  obtain ⟨hlast, hle⟩ := enc7_last 10 n h11
  have hv : valN (encN n) = n := enc7_val 10 n h11
  change (encN n).getD ((encN n).length - 1) 0 = _ at hlast
  change 1 < (encN n).length → _ at hle
  change _ = n / 128 ^ ((encN n).length - 1) at hlast
  change _ → 128 ^ ((encN n).length - 1) ≤ n at hle
  generalize encN n = l at *
  obtain ⟨k, hk⟩ : ∃ k, l.length = k + 1 := ⟨l.length - 1, by omega⟩
  rw [hk] at hlast hle hg
  simp only [Nat.add_sub_cancel] at hlast hle hg
  unfold lookN
  simp only [hg]
  rw [if_neg (by rw [List.length_append, hk]; omega)]
  have hget : (l ++ r).getD k 0 = n / 128 ^ k := by
    rw [List.getD_eq_getElem?_getD, List.getElem?_append_left (by omega), ← List.getD_eq_getElem?_getD, hlast]
  rw [hget]
  have hno : ¬ ((0 < k ∧ n / 128 ^ k = 0) ∨ (k = 9 ∧ 1 < n / 128 ^ k)) := by
    rintro (⟨h1, h2⟩ | ⟨h1, h2⟩)
    · have h3 := hle (by omega)
      have h4 : 1 ≤ n / 128 ^ k := (Nat.le_div_iff_mul_le (Nat.pow_pos (by omega))).2 (by omega)
      omega
    · subst h1
      have h5 : (128 : Nat) ^ 9 = 9223372036854775808 := by decide
      rw [h5] at h2
      omega
  rw [if_neg hno, List.take_append_of_le_length (by omega), List.take_of_length_le (by omega), hv, hk]
theorem take1_enc {n most : Nat} (h : n < 18446744073709551616) (r : List Nat) : take1 (encN n ++ r) most = if most < n then (0, 2, 0) else ((encN n).length, 0, n) := by
  unfold take1
  rw [encN_look h]
  simp
end Go.Proofs.Ytjiecnoplnaahaa
namespace Go.Proofs.Ytjiecnoplnaahaa
theorem numRS_take1 {l : List Nat} {at_ most : Nat} {k v : Nat} (h : take1 (l.drop at_) most = (k, 0, v)) : numRS ⟨l, at_, 0⟩ most = (⟨l, at_ + k, 0⟩, v) := by
  unfold numRS; simp [h]
theorem numRS_step {l : List Nat} {at_ v most : Nat} {r : List Nat} (hd : l.drop at_ = encN v ++ r) (hv : v < 18446744073709551616) (hm : v ≤ most) :
    numRS ⟨l, at_, 0⟩ most = (⟨l, at_ + (encN v).length, 0⟩, v) ∧ l.drop (at_ + (encN v).length) = r :=
  ⟨numRS_take1 (by rw [hd, take1_enc hv, if_neg (by omega)]), by rw [← List.drop_drop, hd, List.drop_left]⟩
theorem valN_enc7 : ∀ (k : Nat) (l : List Nat) (f : Nat), (∀ x ∈ l, x < 256) → k < l.length → (∀ j, j < k → 128 ≤ l.getD j 0) → l.getD k 0 < 128 → (k = 0 ∨ 1 ≤ l.getD k 0) → k ≤ f → enc7 f (valN (l.take (k + 1))) = l.take (k + 1) := by
  intro k
  induction k with
  | zero =>
    intro l f hb hk _ hlt _ _
    cases l with
    | nil => simp at hk
    | cons x l =>
      have hx : x < 128 := by simpa using hlt
      simp only [List.take_succ_cons, List.take_zero, valN]
      rw [show x % 128 + 128 * 0 = x by omega, enc7_small hx]
  | succ k ih =>
    intro l f hb hk hge hlt hnz hf
    cases l with
    | nil => simp at hk
    | cons x l =>
      have hx : 128 ≤ x := by simpa using hge 0 (by omega)
      have hx2 : x < 256 := hb x (by simp)
      obtain ⟨f, rfl⟩ : ∃ f', f = f' + 1 := ⟨f - 1, by omega⟩
      have hn1 : 1 ≤ l.getD k 0 := by
        rcases hnz with h | h
        · omega
        · simpa using h
      have h1 := ih l f (fun y hy => hb y (by simp [hy])) (by simpa using hk) (fun j hj => by simpa using hge (j + 1) (by omega)) (by simpa using hlt) (.inr hn1) (by omega)
      have hpos : 0 < valN (l.take (k + 1)) := by
        have hkl : k < l.length := by simpa using hk
        rw [take_nat hkl, valN_snoc]
        have h2 : 0 < 128 ^ (l.take k).length := Nat.pow_pos (by omega)
        have hlk : l.getD k 0 < 128 := by simpa using hlt
        rw [Nat.mod_eq_of_lt hlk]
        have h3 : 0 < 128 ^ (l.take k).length * l.getD k 0 := Nat.mul_pos h2 (by omega)
        omega
      have e : valN ((x :: l).take (k + 1 + 1)) = x % 128 + 128 * valN (l.take (k + 1)) := rfl
      rw [e, enc7_big (by omega)]
      rw [show (x % 128 + 128 * valN (l.take (k + 1))) % 128 + 128 = x by omega, show (x % 128 + 128 * valN (l.take (k + 1))) / 128 = valN (l.take (k + 1)) by omega, h1]
      rfl
theorem goOn_ge : ∀ (f : Nat) (l : List Nat) (j : Nat), j < goOn f l → 128 ≤ l.getD j 0 := by
  intro f
  induction f with
  | zero => intro l j h; simp [goOn] at h
  | succ f ih =>
    intro l j h
    cases l with
    | nil => simp [goOn] at h
    | cons b l =>
      unfold goOn at h
      split at h
      · cases j with
        | zero => simpa
        | succ j => simpa using ih l j (by omega)
      · omega
theorem goOn_at : ∀ (f : Nat) (l : List Nat), goOn f l < f → goOn f l < l.length → l.getD (goOn f l) 0 < 128 := by
  intro f
  induction f with
  | zero => intro l h; omega
  | succ f ih =>
    intro l h1 h2
    cases l with
    | nil => simp [goOn] at h2
    | cons b l =>
      unfold goOn at h1 h2 ⊢
      split
      · rename_i hb
        rw [if_pos hb] at h1 h2
        simpa using ih l (by omega) (by simpa using h2)
      · simp; omega
/-- One writing: what a number is read of is its bytes. -/
theorem look_one {l : List Nat} (hb : ∀ x ∈ l, x < 256) (h : (lookN l).2.2 = 0) : l.take (lookN l).2.1 = encN (lookN l).1 := by
  have hle := goOn_le 10 l
  have hge := goOn_ge 10 l
  unfold lookN at h ⊢
  simp only at h ⊢
  split
  · rename_i h1
    rw [if_pos h1] at h
    split at h <;> simp at h
  · rename_i h1
    rw [if_neg h1] at h
    split
    · rename_i h2; rw [if_pos h2] at h; simp at h
    · rename_i h2
      simp only
      have h3 := goOn_at 10 l (by omega) (by omega)
      exact (valN_enc7 (goOn 10 l) l 10 hb (by omega) hge h3 (by
        rcases Nat.eq_zero_or_pos (goOn 10 l) with h4 | h4
        · exact .inl h4
        · right
          have : ¬ l.getD (goOn 10 l) 0 = 0 := fun e => h2 (.inl ⟨h4, e⟩)
          omega) (by omega)).symm
/-- A read that went well took just the number's bytes. -/
theorem numRS_one {s : RS} {m : Nat} (hb : ∀ x ∈ s.l, x < 256) (h : (numRS s m).1.err = 0) : s.err = 0 ∧ s.l.drop s.at_ = encN (numRS s m).2 ++ s.l.drop (numRS s m).1.at_ := by
  obtain ⟨l, at_, err⟩ := s
  unfold numRS at h ⊢
  by_cases he : err = 0
  · refine ⟨he, ?_⟩
    rw [if_neg (by simpa using he)] at h ⊢
    split
    · rename_i ht
      rw [if_pos ht] at h
      exact absurd h ht
    · rename_i ht
      simp only
      have h1 : (lookN (l.drop at_)).2.2 = 0 := by
        unfold take1 at ht
        split at ht
        · simpa using ht
        · rename_i h2; simpa using h2
      have h3 : take1 (l.drop at_) m = ((lookN (l.drop at_)).2.1, 0, (lookN (l.drop at_)).1) := by
        unfold take1 at ht ⊢
        rw [if_neg (by simp [h1])] at ht ⊢
        split
        · rename_i h4; rw [if_pos h4] at ht; simp at ht
        · rfl
      rw [h3]
      simp only
      rw [← look_one (fun x hx => hb x (List.mem_of_mem_drop hx)) h1, ← List.drop_drop, List.take_append_drop]
  · rw [if_pos (by simpa using he)] at h
    exact absurd h he
end Go.Proofs.Ytjiecnoplnaahaa
namespace Go.Proofs.Ytjiecnoplnaahaa
theorem bytesRS_step {l : List Nat} {at_ most : Nat} {x r : List Nat} (hd : l.drop at_ = encB x ++ r) (hv : x.length < 18446744073709551616) (hm : x.length ≤ most) :
    bytesRS ⟨l, at_, 0⟩ most = (⟨l, at_ + (encB x).length, 0⟩, x) ∧ l.drop (at_ + (encB x).length) = r := by
  have hd2 : l.drop at_ = encN x.length ++ (x ++ r) := by rw [hd]; unfold encB; rw [List.append_assoc]
  have ht : takeB (l.drop at_) most = ((encN x.length).length + x.length, 0, x) := by
    rw [hd2]
    unfold takeB
    rw [encN_look hv]
    simp only
    rw [if_neg (by simp), if_neg (by omega), if_neg (by simp only [List.length_append]; omega), List.drop_left, List.take_left]
  refine ⟨?_, by rw [← List.drop_drop, hd, List.drop_left]⟩
  unfold bytesRS
  simp only
  rw [if_neg (by simp), ht]
  simp only
  rw [if_neg (by simp)]
  unfold encB
  rw [List.length_append]
theorem bytesRS_one {s : RS} {m : Nat} (hb : ∀ x ∈ s.l, x < 256) (h : (bytesRS s m).1.err = 0) : s.err = 0 ∧ s.l.drop s.at_ = encB (bytesRS s m).2 ++ s.l.drop (bytesRS s m).1.at_ := by
  obtain ⟨l, at_, err⟩ := s
  unfold bytesRS at h ⊢
  by_cases he : err = 0
  · refine ⟨he, ?_⟩
    rw [if_neg (by simpa using he)] at h ⊢
    split
    · rename_i ht
      rw [if_pos ht] at h
      exact absurd h ht
    · rename_i ht
      simp only
      generalize hd : l.drop at_ = r at *
      have hbr : ∀ x ∈ r, x < 256 := fun x hx => hb x (by rw [← hd] at hx; exact List.mem_of_mem_drop hx)
      unfold takeB at ht ⊢
      by_cases h1 : (lookN r).2.2 = 0
      · rw [if_neg (by simp [h1])] at ht ⊢
        split
        · rename_i h4; rw [if_pos h4] at ht; simp at ht
        · rename_i h4
          rw [if_neg h4] at ht
          split
          · rename_i h5; rw [if_pos h5] at ht; simp at ht
          · rename_i h5
            simp only
            have e1 := look_one hbr h1
            have hk := lookN_len r
            have hlen : ((r.drop (lookN r).2.1).take (lookN r).1).length = (lookN r).1 := by rw [List.length_take, List.length_drop]; omega
            unfold encB
            rw [hlen, ← e1, List.append_assoc, ← List.drop_drop, hd]
            have : (r.drop (lookN r).2.1).take (lookN r).1 ++ r.drop ((lookN r).2.1 + (lookN r).1) = r.drop (lookN r).2.1 := by
              rw [← List.drop_drop, List.take_append_drop]
            rw [this, List.take_append_drop]
      · rw [if_pos (by simpa using h1)] at ht
        exact absurd h1 (by simpa using ht)
  · rw [if_pos (by simpa using he)] at h
    exact absurd h he
end Go.Proofs.Ytjiecnoplnaahaa
namespace Go.Proofs.Ytjiecnoplnaahaa
theorem chunk_bytes (d : D8) : chunk d.bytes 0 = d := rfl
theorem nameRS_step {l : List Nat} {at_ : Nat} {d : D8} {r : List Nat} (hd : l.drop at_ = encB d.bytes ++ r) :
    nameRS ⟨l, at_, 0⟩ = (⟨l, at_ + (encB d.bytes).length, 0⟩, d) ∧ l.drop (at_ + (encB d.bytes).length) = r := by
  obtain ⟨h1, h2⟩ := bytesRS_step (most := 8) hd (by show 8 < _; omega) (by show 8 ≤ 8; omega)
  refine ⟨?_, h2⟩
  unfold nameRS
  rw [h1]
  simp only
  rw [if_neg (by simp), if_neg (by show ¬ d.bytes.length ≠ 8; simp [D8.bytes]), chunk_bytes]
theorem hdRS_step {l : List Nat} {at_ : Nat} {h : Hd} {r : List Nat} (ho : h.ok) (hd : l.drop at_ = encHd h ++ r) :
    hdRS ⟨l, at_, 0⟩ = (⟨l, at_ + (encHd h).length, 0⟩, h) ∧ l.drop (at_ + (encHd h).length) = r := by
  obtain ⟨⟨a1, a2⟩, ⟨b1, b2⟩, ⟨c1, c2⟩⟩ := ho
  obtain ⟨am, ham⟩ := Int.eq_ofNat_of_zero_le (Int.le_of_lt a1)
  obtain ⟨fr, hfr⟩ := Int.eq_ofNat_of_zero_le b1
  obtain ⟨un, hun⟩ := Int.eq_ofNat_of_zero_le c1
  unfold encHd at hd ⊢
  rw [List.append_assoc, List.append_assoc, List.append_assoc] at hd
  obtain ⟨e1, d1⟩ := nameRS_step hd
  obtain ⟨e2, d2⟩ := numRS_step (most := mostN) d1 (by omega) (by show _ ≤ 1125899906842624; omega)
  obtain ⟨e3, d3⟩ := numRS_step (most := 1) d2 (by omega) (by omega)
  obtain ⟨e4, d4⟩ := numRS_step (most := farN) d3 (by omega) (by show _ ≤ 1099511627776; omega)
  unfold hdRS
  rw [e1]
  simp only
  rw [e2]
  simp only
  rw [e3]
  simp only
  rw [e4]
  have hh : (⟨h.nm, ((h.am.toNat : Nat) : Int), ((h.fr.toNat : Nat) : Int), ((h.un.toNat : Nat) : Int)⟩ : Hd) = h := by
    obtain ⟨nm, x, y, z⟩ := h
    simp only at ham hfr hun ⊢
    subst ham; subst hfr; subst hun
    simp
  refine ⟨?_, ?_⟩
  · simp only [hh, List.length_append, Nat.add_assoc]
  · rw [← d4]; simp only [List.length_append, Nat.add_assoc]
theorem encHds_drop {hs : List Hd} {k : Nat} (h : k < hs.length) : encHds (hs.drop k) = encHd (hs.getD k default) ++ encHds (hs.drop (k + 1)) := by
  unfold encHds
  rw [List.drop_eq_getElem_cons h, List.flatMap_cons, List.getD_eq_getElem?_getD, List.getElem?_eq_getElem h]
  rfl
theorem hRS_step {l : List Nat} {at_ : Nat} {hs : List Hd} {r : List Nat} (ho : ∀ k, k < hs.length → (hs.getD k default).ok) (hd : l.drop at_ = encHds hs ++ r) : ∀ k, k ≤ hs.length →
    hRS ⟨l, at_, 0⟩ k = (⟨l, at_ + (encHds (hs.take k)).length, 0⟩, hs.take k) ∧ l.drop (at_ + (encHds (hs.take k)).length) = encHds (hs.drop k) ++ r := by
  intro k
  induction k with
  | zero => intro _; exact ⟨rfl, by simpa [encHds] using hd⟩
  | succ k ih =>
    intro hk
    obtain ⟨h1, h2⟩ := ih (by omega)
    rw [encHds_drop (by omega), List.append_assoc] at h2
    obtain ⟨h3, h4⟩ := hdRS_step (ho k (by omega)) h2
    rw [hRS_go (by rw [h1]), h1]
    simp only
    rw [h3, encHds_take (by omega), take_hd (by omega), List.length_append]
    exact ⟨by simp only [Nat.add_assoc], by rw [← h4, Nat.add_assoc]⟩
/-- What is told is read as it was. -/
theorem dec_enc {p : Pu} (hp : p.check = 0) : decPu (encPu p) = (0, p) := by
  obtain ⟨⟨h1, h2⟩, ⟨h3, h4⟩, ⟨h5, h6⟩, h7, h8⟩ := check_parts hp
  obtain ⟨no, hno⟩ := Int.eq_ofNat_of_zero_le h1
  obtain ⟨a, ha⟩ := Int.eq_ofNat_of_zero_le h3
  obtain ⟨b, hb⟩ := Int.eq_ofNat_of_zero_le h5
  have hd : (encPu p).drop 0 = encB p.nm.bytes ++ (encN p.no.toNat ++ (encN p.h0.toNat ++ (encN p.h1.toNat ++ (encN p.held.length ++ (encHds p.held ++ []))))) := by
    unfold encPu encHead; simp
  obtain ⟨e1, d1⟩ := nameRS_step hd
  generalize 0 + (encB p.nm.bytes).length = a1 at e1 d1
  obtain ⟨e2, d2⟩ := numRS_step (most := farN) d1 (by omega) (by show _ ≤ 1099511627776; omega)
  generalize a1 + (encN p.no.toNat).length = a2 at e2 d2
  obtain ⟨e3, d3⟩ := numRS_step (most := mostN) d2 (by omega) (by show _ ≤ 1125899906842624; omega)
  generalize a2 + (encN p.h0.toNat).length = a3 at e3 d3
  obtain ⟨e4, d4⟩ := numRS_step (most := mostN) d3 (by omega) (by show _ ≤ 1125899906842624; omega)
  generalize a3 + (encN p.h1.toNat).length = a4 at e4 d4
  obtain ⟨e5, d5⟩ := numRS_step (most := 16) d4 (by omega) h7
  generalize a4 + (encN p.held.length).length = a5 at e5 d5
  obtain ⟨e6, d6⟩ := hRS_step h8 d5 p.held.length (Nat.le_refl _)
  rw [List.take_of_length_le (Nat.le_refl _)] at e6 d6
  rw [List.drop_of_length_le (Nat.le_refl _)] at d6
  have q1 : p1 (encPu p) = ⟨encPu p, a1, 0⟩ := congrArg Prod.fst e1
  have q2 : p2 (encPu p) = ⟨encPu p, a2, 0⟩ := by unfold p2; rw [q1]; exact congrArg Prod.fst e2
  have q3 : p3 (encPu p) = ⟨encPu p, a3, 0⟩ := by unfold p3; rw [q2]; exact congrArg Prod.fst e3
  have q4 : p4 (encPu p) = ⟨encPu p, a4, 0⟩ := by unfold p4; rw [q3]; exact congrArg Prod.fst e4
  have q5 : p5 (encPu p) = ⟨encPu p, a5, 0⟩ := by unfold p5; rw [q4]; exact congrArg Prod.fst e5
  have qm : manyRS (encPu p) = p.held.length := by unfold manyRS; rw [q4]; exact congrArg Prod.snd e5
  have hpu : ∃ t, puRS (encPu p) = (⟨encPu p, t, 0⟩, p) ∧ (encPu p).drop t = [] := by
    refine ⟨a5 + (encHds p.held).length, ?_, by rw [d6]; rfl⟩
    unfold puRS
    rw [qm, q5, q1, q2, q3]
    rw [e6, e1, e2, e3, e4]
    obtain ⟨nm, x, y, z, hs⟩ := p
    simp only at hno ha hb ⊢
    subst hno; subst ha; subst hb
    simp
  obtain ⟨t, hpu, hdrop⟩ := hpu
  unfold decPu
  rw [hpu]
  have hlen := congrArg List.length hdrop
  rw [List.length_drop, List.length_nil] at hlen
  have hE : endRS ⟨encPu p, t, 0⟩ = 0 := by
    unfold endRS
    rw [if_neg (by simp), if_neg (by simp only; omega)]
  rw [if_neg (by simp [hE]), if_neg (by simp [hp])]
theorem bytes_chunk {l : List Nat} (h : l.length = 8) : (chunk l 0).bytes = l := by
  rcases l with _ | ⟨x0, _ | ⟨x1, _ | ⟨x2, _ | ⟨x3, _ | ⟨x4, _ | ⟨x5, _ | ⟨x6, _ | ⟨x7, _ | ⟨x8, l⟩⟩⟩⟩⟩⟩⟩⟩⟩ <;> first | rfl | (simp at h)
theorem nameRS_one {s : RS} (hb : ∀ x ∈ s.l, x < 256) (h : (nameRS s).1.err = 0) : s.err = 0 ∧ s.l.drop s.at_ = encB (nameRS s).2.bytes ++ s.l.drop (nameRS s).1.at_ := by
  unfold nameRS at h ⊢
  split at h
  · rename_i h1; exact absurd h h1
  · rename_i h1
    split at h
    · exact absurd h (by show ¬ (3 : Int) = 0; decide)
    · rename_i h2
      rw [if_neg h1, if_neg h2]
      simp only
      rw [bytes_chunk (by simpa using h2)]
      exact bytesRS_one hb h
theorem hdRS_one {l : List Nat} {s : RS} (hg : GoodRS l s) (hb : ∀ x ∈ l, x < 256) (h : (hdRS s).1.err = 0) : s.err = 0 ∧ l.drop s.at_ = encHd (hdRS s).2 ++ l.drop (hdRS s).1.at_ := by
  have g1 := good_name hg
  have g2 := good_num g1 mostN
  have g3 := good_num g2 1
  unfold hdRS at h ⊢
  simp only at h ⊢
  obtain ⟨e4, d4⟩ := numRS_one (by rw [g3.1]; exact hb) h
  obtain ⟨e3, d3⟩ := numRS_one (by rw [g2.1]; exact hb) e4
  obtain ⟨e2, d2⟩ := numRS_one (by rw [g1.1]; exact hb) e3
  obtain ⟨e1, d1⟩ := nameRS_one (by rw [hg.1]; exact hb) e2
  rw [hg.1] at d1; rw [g1.1] at d2; rw [g2.1] at d3; rw [g3.1] at d4
  refine ⟨e1, ?_⟩
  unfold encHd
  simp only [Int.toNat_natCast, List.append_assoc]
  rw [d1, d2, d3, d4]
theorem hRS_one {l : List Nat} {s : RS} (hg : GoodRS l s) (hb : ∀ x ∈ l, x < 256) : ∀ k, (hRS s k).1.err = 0 → s.err = 0 ∧ l.drop s.at_ = encHds (hRS s k).2 ++ l.drop (hRS s k).1.at_ ∧ (hRS s k).2.length = k
  | 0, h => ⟨h, by simp [hRS, encHds], rfl⟩
  | k + 1, h => by
    have he : (hRS s k).1.err = 0 := by
      rcases Classical.em ((hRS s k).1.err = 0) with h1 | h1
      · exact h1
      · have e : hRS s (k + 1) = hRS s k := by show (if _ then _ else _) = _; rw [if_pos h1]
        rw [e] at h; exact absurd h h1
    obtain ⟨a, b, c⟩ := hRS_one hg hb k he
    rw [hRS_go he] at h ⊢
    simp only at h ⊢
    obtain ⟨_, d⟩ := hdRS_one (good_hs hg k) hb h
    refine ⟨a, ?_, by simp [c]⟩
    rw [b, d]
    unfold encHds
    simp
/-- What is read, told again, is these bytes. -/
theorem enc_dec {b : List Nat} (hb : ∀ x ∈ b, x < 256) (h : (decPu b).1 = 0) : encPu (decPu b).2 = b ∧ (decPu b).2.check = 0 := by
  have hE : endRS (puRS b).1 = 0 := by
    rcases Classical.em (endRS (puRS b).1 = 0) with h1 | h1
    · exact h1
    · unfold decPu at h; rw [if_pos h1] at h; exact absurd h h1
  have hC : (puRS b).2.check = 0 := by
    rcases Classical.em ((puRS b).2.check = 0) with h1 | h1
    · exact h1
    · unfold decPu at h; rw [if_neg (by simpa using hE), if_pos h1] at h; exact absurd h h1
  have hd : decPu b = (0, (puRS b).2) := by unfold decPu; rw [if_neg (by simpa using hE), if_neg (by simpa using hC)]
  rw [hd]
  refine ⟨?_, hC⟩
  have ht : (puRS b).1.err = 0 ∧ (puRS b).1.l.length ≤ (puRS b).1.at_ := by
    unfold endRS at hE
    split at hE
    · rename_i h1; exact absurd hE h1
    · rename_i h1
      split at hE
      · simp at hE
      · rename_i h2; exact ⟨by simpa using h1, by omega⟩
  have e6 : (hRS (p5 b) (manyRS b)).1.err = 0 := ht.1
  have gl := good_hs (good5 b) (manyRS b)
  have hlen : b.length ≤ (hRS (p5 b) (manyRS b)).1.at_ := by have := ht.2; rw [show (puRS b).1 = (hRS (p5 b) (manyRS b)).1 from rfl, gl.1] at this; exact this
  obtain ⟨x5, y5, z5⟩ := hRS_one (good5 b) hb _ e6
  obtain ⟨x4, y4⟩ := numRS_one (s := p4 b) (m := 16) (by rw [(good4 b).1]; exact hb) x5
  obtain ⟨x3, y3⟩ := numRS_one (s := p3 b) (m := mostN) (by rw [(good3 b).1]; exact hb) x4
  obtain ⟨x2, y2⟩ := numRS_one (s := p2 b) (m := mostN) (by rw [(good2 b).1]; exact hb) x3
  obtain ⟨x1, y1⟩ := numRS_one (s := p1 b) (m := farN) (by rw [(good1 b).1]; exact hb) x2
  obtain ⟨_, y0⟩ := nameRS_one (s := ⟨b, 0, 0⟩) hb x1
  rw [(good4 b).1] at y4; rw [(good3 b).1] at y3; rw [(good2 b).1] at y2; rw [(good1 b).1] at y1
  simp only [List.drop_zero] at y0
  rw [List.drop_of_length_le hlen] at y5
  unfold encPu encHead
  rw [show (puRS b).2.held = (hRS (p5 b) (manyRS b)).2 from rfl, z5, show (puRS b).2.nm = (nameRS ⟨b, 0, 0⟩).2 from rfl, show (puRS b).2.no.toNat = (numRS (p1 b) farN).2 from Int.toNat_natCast _, show (puRS b).2.h0.toNat = (numRS (p2 b) mostN).2 from Int.toNat_natCast _, show (puRS b).2.h1.toNat = (numRS (p3 b) mostN).2 from Int.toNat_natCast _]
  have y1' : b.drop (nameRS ⟨b, 0, 0⟩).1.at_ = _ := y1
  have y2' : b.drop (numRS (p1 b) farN).1.at_ = _ := y2
  have y3' : b.drop (numRS (p2 b) mostN).1.at_ = _ := y3
  have y4' : b.drop (numRS (p3 b) mostN).1.at_ = _ := y4
  have y5' : b.drop (numRS (p4 b) 16).1.at_ = _ := y5
  rw [y1', y2', y3', y4', y5'] at y0
  refine Eq.trans ?_ y0.symm
  simp [manyRS]
end Go.Proofs.Ytjiecnoplnaahaa
