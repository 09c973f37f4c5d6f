/- Plain laws of numbers as text, of a text's pieces and lines: no program in sight. -/
import Derived.Lib.SplitLaws
import Derived.Lib.ItoaMem
import Derived.Lib.ItoaLen
import Derived.Lib.SlTrimSet
import Derived.Lib.Strings
import Derived.Test.YtecolkpnllikaaaDoorProg
namespace Go.Proofs.YtecolkpnllikaaaDoor
open Go.Lib

/-! ### Digits -/
def isDig (c : UInt8) : Bool := decide (48 ≤ c.toNat) && decide (c.toNat ≤ 57)
def tens : List UInt8 := [48, 49, 50, 51, 52, 53, 54, 55, 56, 57]
theorem tens_dig (c : UInt8) : tens.contains c = isDig c := by
  have h : ∀ n : Fin 256, tens.contains (UInt8.ofNat n.val) = isDig (UInt8.ofNat n.val) := by decide +kernel
  have := h ⟨c.toNat, c.toNat_lt⟩
  simpa using this
theorem dropWhile_all {α : Type} (p : α → Bool) : ∀ l : List α, (∀ x ∈ l, p x = true) → l.dropWhile p = []
  | [], _ => rfl
  | a :: l, h => by
    rw [List.dropWhile_cons, if_pos (h a (by simp))]
    exact dropWhile_all p l fun x hx => h x (by simp [hx])
theorem dropWhile_none {α : Type} (p : α → Bool) : ∀ l : List α, l.dropWhile p = [] → ∀ x ∈ l, p x = true
  | [], _, x, hx => by simp at hx
  | a :: l, h, x, hx => by
    rw [List.dropWhile_cons] at h
    split at h
    · rename_i ha
      rcases List.mem_cons.1 hx with rfl | hx
      · exact ha
      · exact dropWhile_none p l h x hx
    · simp at h
theorem dropWhile_head {α : Type} (p : α → Bool) : ∀ (l : List α) (x : α) (m : List α), l.dropWhile p = x :: m → p x = false
  | [], x, m, h => by simp at h
  | a :: l, x, m, h => by
    rw [List.dropWhile_cons] at h
    split at h
    · exact dropWhile_head p l x m h
    · rename_i ha
      simp only [List.cons.injEq] at h
      rw [← h.1]
      simpa using ha
theorem trim_none (l : List UInt8) : trimS l tens = [] ↔ ∀ c ∈ l, isDig c = true := by
  constructor
  · intro h
    unfold trimS trimLeftS trimRightS at h
    have h1 := dropWhile_none _ _ h
    cases hr : l.reverse.dropWhile (tens.contains ·) with
    | nil =>
      intro c hc
      rw [← tens_dig]
      exact dropWhile_none _ _ hr c (by simpa using hc)
    | cons x m =>
      have h2 := dropWhile_head _ _ _ _ hr
      have h3 := h1 x (by rw [hr]; simp)
      rw [h2] at h3
      exact absurd h3 (by simp)
  · intro h
    unfold trimS trimLeftS trimRightS
    rw [dropWhile_all (tens.contains ·) l.reverse (fun c hc => by rw [tens_dig]; exact h c (by simpa using hc))]
    rfl

/-- The number that digits are. -/
def valD (l : List UInt8) : Nat := l.foldl (fun n c => 10 * n + (c.toNat - 48)) 0
theorem valD_snoc (l : List UInt8) (c : UInt8) : valD (l ++ [c]) = 10 * valD l + (c.toNat - 48) := by simp [valD]
theorem valD_one (c : UInt8) : valD [c] = c.toNat - 48 := by simp [valD]
theorem dig_ofNat {n : Nat} (h : n < 10) : isDig (UInt8.ofNat (48 + n)) = true ∧ (UInt8.ofNat (48 + n)).toNat = 48 + n := by
  have h1 : (UInt8.ofNat (48 + n)).toNat = 48 + n := by rw [UInt8.toNat_ofNat']; omega
  refine ⟨?_, h1⟩
  unfold isDig
  rw [h1]
  simp; omega
theorem dig_back {c : UInt8} (h : isDig c = true) : UInt8.ofNat (48 + (c.toNat - 48)) = c := by
  simp only [isDig, Bool.and_eq_true, decide_eq_true_eq] at h
  rw [show 48 + (c.toNat - 48) = c.toNat by omega]
  simp
theorem dec_digs (u : Nat) : ∀ c ∈ decDigits u, isDig c = true := by
  induction u using Nat.strongRecOn with
  | ind u ih =>
    by_cases h : u < 10
    · rw [decDigits_one h]
      intro c hc
      obtain rfl := List.mem_singleton.1 hc
      exact (dig_ofNat h).1
    · rw [decDigits, dif_neg h]
      intro c hc
      rcases List.mem_append.1 hc with hc | hc
      · exact ih (u / 10) (by omega) c hc
      · obtain rfl := List.mem_singleton.1 hc
        exact (dig_ofNat (Nat.mod_lt _ (by decide))).1
theorem dec_ne (u : Nat) : decDigits u ≠ [] := by
  intro h
  have h1 := decDigits_length u
  have h2 := nDigits_pos u
  rw [h] at h1
  simp at h1
  omega
theorem dec_val (u : Nat) : valD (decDigits u) = u := by
  induction u using Nat.strongRecOn with
  | ind u ih =>
    by_cases h : u < 10
    · rw [decDigits_one h, valD_one, (dig_ofNat h).2]; omega
    · rw [decDigits, dif_neg h, valD_snoc, ih (u / 10) (by omega), (dig_ofNat (Nat.mod_lt _ (by decide))).2]; omega
theorem head_append {α : Type} {a b : List α} (h : a ≠ []) : (a ++ b).head? = a.head? := by
  cases a with
  | nil => exact absurd rfl h
  | cons x l => rfl
theorem dec_head (u : Nat) (h : 1 < (decDigits u).length) : (decDigits u).head? ≠ some 48 := by
  induction u using Nat.strongRecOn with
  | ind u ih =>
    by_cases h10 : u < 10
    · rw [decDigits_one h10] at h
      simp at h
    · rw [decDigits, dif_neg h10, head_append (dec_ne _)]
      by_cases h2 : 1 < (decDigits (u / 10)).length
      · exact ih (u / 10) (by omega) h2
      · have h3 : u / 10 < 10 := by
          rw [decDigits_length] at h2
          by_cases h4 : u / 10 < 10
          · exact h4
          · rw [nDigits_big h4] at h2
            have := nDigits_pos (u / 10 / 10)
            omega
        rw [decDigits_one h3]
        intro e
        have e1 : UInt8.ofNat (48 + u / 10) = 48 := by simpa using e
        have e2 := congrArg UInt8.toNat e1
        rw [(dig_ofNat h3).2] at e2
        simp at e2
        omega
theorem dec_len {u : Nat} (h : u < 10000000000) : (decDigits u).length ≤ 10 := by
  rw [decDigits_length]
  by_cases h0 : nDigits u ≤ 10
  · exact h0
  · have key : ∀ k u : Nat, k + 1 ≤ nDigits u → 10 ^ k ≤ u ∨ k = 0 := by
      intro k
      induction k with
      | zero => intro u _; exact .inr rfl
      | succ k ih =>
        intro u hu
        by_cases h : u < 10
        · rw [nDigits_small h] at hu; omega
        · rw [nDigits_big h] at hu
          rcases ih (u / 10) (by omega) with h1 | h1
          · left
            rw [Nat.pow_succ]
            omega
          · subst h1
            left
            simpa using (by omega : 10 ≤ u)
    rcases key 10 u (by omega) with h1 | h1
    · have e : (10 : Nat) ^ 10 = 10000000000 := by decide
      rw [e] at h1
      omega
    · omega
/-- Digits without a needless nought ahead are their number's digits. -/
theorem dec_of : ∀ (n : Nat) (l : List UInt8), l.length = n → l ≠ [] → (∀ c ∈ l, isDig c = true) → (1 < l.length → l.head? ≠ some 48) → decDigits (valD l) = l := by
  intro n
  induction n with
  | zero => intro l hl hne; exact absurd (List.length_eq_zero_iff.1 hl) hne
  | succ n ih =>
    intro l hl hne hd hz
    obtain ⟨m, c, rfl⟩ : ∃ m c, l = m ++ [c] := ⟨l.dropLast, l.getLast hne, (List.dropLast_concat_getLast hne).symm⟩
    have hc := hd c (by simp)
    have hcb := hc
    simp only [isDig, Bool.and_eq_true, decide_eq_true_eq] at hcb
    rw [valD_snoc]
    cases hm : m with
    | nil =>
      simp only [valD, List.foldl_nil, List.nil_append]
      rw [decDigits_one (by omega), show 48 + (10 * 0 + (c.toNat - 48)) = 48 + (c.toNat - 48) by omega, dig_back hc]
    | cons x t =>
      rw [← hm]
      have hmne : m ≠ [] := by rw [hm]; simp
      have hml : m.length = n := by simp at hl; exact hl
      have h0 := hz (by rw [List.length_append, hm]; simp)
      rw [head_append hmne] at h0
      have hI := ih m hml hmne (fun c hc => hd c (by simp [hc])) (fun _ => h0)
      have hv : valD m ≠ 0 := by
        intro e
        rw [e, decDigits_one (by decide)] at hI
        rw [← hI] at h0
        exact h0 rfl
      rw [decDigits, dif_neg (by omega), show (10 * valD m + (c.toNat - 48)) / 10 = valD m by omega, hI, show (10 * valD m + (c.toNat - 48)) % 10 = c.toNat - 48 by omega, dig_back hc]
theorem valD_lt (l : List UInt8) (h : ∀ c ∈ l, isDig c = true) : valD l < 10 ^ l.length := by
  induction hn : l.length generalizing l with
  | zero => rw [List.length_eq_zero_iff.1 hn]; simp [valD]
  | succ n ih =>
    have hne : l ≠ [] := by intro e; rw [e] at hn; simp at hn
    obtain ⟨m, c, rfl⟩ : ∃ m c, l = m ++ [c] := ⟨l.dropLast, l.getLast hne, (List.dropLast_concat_getLast hne).symm⟩
    have hc := h c (by simp)
    simp only [isDig, Bool.and_eq_true, decide_eq_true_eq] at hc
    have := ih m (fun c hc => h c (by simp [hc])) (by simp at hn; exact hn)
    rw [valD_snoc, Nat.pow_succ]
    omega

/-! ### Numbers -/
def rightN (n : Int) : Bool := decide (-2147483648 ≤ n) && decide (n ≤ 2147483647)
def formN (s d : List UInt8) : Bool := decide (d = []) || decide (trimS d tens ≠ []) || (decide (1 < d.length) && decide (d.head? = some 48)) || decide (s = [45, 48])
def signN (s d : List UInt8) : Int := if d.length < s.length then -(valD d : Int) else valD d
/-- The number that a text is, and the error. -/
def numberE (s : List UInt8) : Int × Int :=
  if formN s (trimPrefix s [45]) then (0, 3)
  else if 10 < (trimPrefix s [45]).length then (0, 2)
  else if rightN (signN s (trimPrefix s [45])) then (signN s (trimPrefix s [45]), 0) else (0, 2)
theorem trim_minus (l : List UInt8) : trimPrefix (45 :: l) [45] = l := by
  unfold trimPrefix hasPrefix
  simp [List.isPrefixOf]
theorem trim_plain {l : List UInt8} (h : l.head? ≠ some 45) : trimPrefix l [45] = l := by
  cases l with
  | nil => simp [trimPrefix, hasPrefix, List.isPrefixOf]
  | cons c l =>
    have : c ≠ 45 := by simpa using h
    simp [trimPrefix, hasPrefix, List.isPrefixOf, Ne.symm this]
theorem head_dig {l : List UInt8} (h : ∀ c ∈ l, isDig c = true) : l.head? ≠ some 45 := by
  cases l with
  | nil => simp
  | cons c l =>
    intro e
    have e1 : c = 45 := by simpa using e
    have := h c (by simp)
    rw [e1] at this
    exact absurd this (by decide)
theorem number_itoa {n : Int} (h : rightN n = true) : numberE (itoa n) = (n, 0) := by
  have hb := h
  simp only [rightN, Bool.and_eq_true, decide_eq_true_eq] at hb
  have key : ∀ (s : List UInt8) (u : Nat), u < 10000000000 → trimPrefix s [45] = decDigits u → s ≠ [45, 48] → formN s (decDigits u) = false ∧ ¬ 10 < (decDigits u).length := by
    intro s u hu _ hs
    refine ⟨?_, by have := dec_len hu; omega⟩
    unfold formN
    rw [decide_eq_false (dec_ne u), decide_eq_false hs]
    rw [decide_eq_false (p := trimS (decDigits u) tens ≠ []) (fun h => h ((trim_none _).2 (dec_digs u)))]
    by_cases h1 : 1 < (decDigits u).length
    · rw [decide_eq_false (dec_head u h1)]; simp
    · rw [decide_eq_false h1]; simp
  by_cases hn : n < 0
  · have e : itoa n = 45 :: decDigits n.natAbs := by unfold itoa; rw [if_pos hn]
    have hs : itoa n ≠ [45, 48] := by
      rw [e]
      intro h1
      have h2 : decDigits n.natAbs = [48] := by simpa using h1
      have h3 := dec_val n.natAbs
      rw [h2] at h3
      have h4 : valD [48] = 0 := by decide
      omega
    have ht : trimPrefix (itoa n) [45] = decDigits n.natAbs := by rw [e, trim_minus]
    obtain ⟨k1, k2⟩ := key _ _ (by omega) ht hs
    have hg : signN (itoa n) (decDigits n.natAbs) = n := by
      unfold signN
      rw [e, if_pos (by simp), dec_val]
      omega
    unfold numberE
    rw [ht, k1, if_neg (by simp), if_neg k2, hg, if_pos h]
  · have e : itoa n = decDigits n.toNat := by unfold itoa; rw [if_neg hn]
    have ht : trimPrefix (itoa n) [45] = decDigits n.toNat := by rw [e]; exact trim_plain (head_dig (dec_digs _))
    have hs : itoa n ≠ [45, 48] := by
      rw [e]
      intro h1
      have := dec_digs n.toNat 45 (by rw [h1]; simp)
      exact absurd this (by decide)
    obtain ⟨k1, k2⟩ := key _ _ (by omega) ht hs
    have hg : signN (itoa n) (decDigits n.toNat) = n := by
      unfold signN
      rw [e, if_neg (by simp), dec_val]
      omega
    unfold numberE
    rw [ht, k1, if_neg (by simp), if_neg k2, hg, if_pos h]
theorem number_back {s : List UInt8} {n : Int} (h : numberE s = (n, 0)) : rightN n = true ∧ itoa n = s := by
  unfold numberE at h
  split at h
  · simp at h
  split at h
  · simp at h
  split at h
  · rename_i hf hl hr
    have hn : signN s (trimPrefix s [45]) = n := by simpa using h
    refine ⟨hn ▸ hr, ?_⟩
    have hf' : formN s (trimPrefix s [45]) = false := by simpa using hf
    unfold formN at hf'
    simp only [Bool.or_eq_false_iff, decide_eq_false_iff_not, Bool.and_eq_false_iff, ne_eq, Decidable.not_not] at hf'
    obtain ⟨⟨⟨f1, f2⟩, f3⟩, f4⟩ := hf'
    have hd := (trim_none _).1 f2
    have hz : 1 < (trimPrefix s [45]).length → (trimPrefix s [45]).head? ≠ some 48 := fun h1 => by
      rcases f3 with f3 | f3
      · exact absurd h1 f3
      · exact f3
    have hdec := dec_of _ _ rfl f1 hd hz
    by_cases h45 : s.head? = some 45
    · obtain ⟨t, rfl⟩ : ∃ t, s = 45 :: t := by
        cases s with
        | nil => simp at h45
        | cons c t => exact ⟨t, by simp at h45; rw [h45]⟩
      rw [trim_minus] at *
      have hv : valD t ≠ 0 := by
        intro e
        rw [e, decDigits_one (by decide)] at hdec
        exact f4 (by rw [← hdec]; rfl)
      unfold signN at hn
      rw [if_pos (by simp)] at hn
      rw [← hn]
      rw [itoa_neg _ (by omega), hdec]
    · rw [trim_plain h45] at *
      unfold signN at hn
      rw [if_neg (by simp)] at hn
      rw [← hn, itoa_nonneg, hdec]
  · simp at h
end Go.Proofs.YtecolkpnllikaaaDoor
