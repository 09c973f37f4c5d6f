/- What follows of an instruction that may be: of the words that it reads and writes, and of where it goes on. Condition: none. -/
import Derived.Test.YtecolkpnllikaaaDoorCodeI
import Derived.Test.YtecolkpnllikaaaDoorCodeG
namespace Go.Proofs.YtecolkpnllikaaaDoor
open Go.RowKit Go.Lib
theorem ok_word {op size words n : Int} {k : Nat} (hs : skipB op k = false) (hk : k < (hasOf op).size) (h : okN op size words k n = true) : 0 ≤ n ∧ n < words := by
  have hw : chr op k = 119 := by
    simp only [skipB, Bool.or_eq_false_iff] at hs
    simpa using hs.1.1
  simpa [okN, hk, hw] using h
theorem reads_within {op a b c size words : Int} (h : rightB op a b c size words = true) : ∀ k, k ≤ (hasOf op).size → ∀ x ∈ rdC op a b c k, 0 ≤ x ∧ x < words := by
  have h3 := hasOf_size op
  have hall : ∀ j, j < 3 → okN op size words j (three a b c j) = true := by
    simp only [rightB, Bool.and_eq_true] at h
    intro j hj
    match j, hj with
    | 0, _ => exact h.1.2.1.1
    | 1, _ => exact h.1.2.1.2
    | 2, _ => exact h.1.2.2
  intro k
  induction k with
  | zero => intro _ x hx; simp [rdC] at hx
  | succ k ih =>
    intro hk x hx
    rw [rdC] at hx
    split at hx
    · exact ih (by omega) x hx
    · rename_i hc
      simp only [Bool.or_eq_true, not_or, Bool.not_eq_true] at hc
      rcases List.mem_append.1 hx with h1 | h1
      · exact ih (by omega) x h1
      · simp only [List.mem_singleton] at h1
        subst h1
        exact ok_word hc.1 (by omega) (hall k (by omega))
theorem ok_mono {op size words size' words' n : Int} {k : Nat} (h1 : size ≤ size') (h2 : words ≤ words') (h : okN op size words k n = true) : okN op size' words' k n = true := by
  unfold okN at h ⊢
  split
  · rename_i hk; rw [if_pos hk] at h
    split
    · rename_i hw; rw [if_pos hw] at h; simp at h ⊢; omega
    · rename_i hw; rw [if_neg hw] at h
      split
      · rename_i hp; rw [if_pos hp] at h; simp at h ⊢; omega
      · rename_i hp; rw [if_neg hp] at h; exact h
  · rename_i hk; rw [if_neg hk] at h; exact h
theorem right_mono {op a b c size words size' words' : Int} (h1 : size ≤ size') (h2 : words ≤ words') (h : rightB op a b c size words = true) : rightB op a b c size' words' = true := by
  simp only [rightB, Bool.and_eq_true] at h ⊢
  exact ⟨⟨h.1.1, ⟨ok_mono h1 h2 h.1.2.1.1, ok_mono h1 h2 h.1.2.1.2⟩, ok_mono h1 h2 h.1.2.2⟩, h.2⟩
theorem has_first {op : Int} (h : 1 ≤ op ∧ op ≤ 18) : 0 < (hasOf op).size ∧ chr op 0 = 119 := by
  obtain ⟨h0, h1⟩ := h
  obtain ⟨k, rfl⟩ := Int.eq_ofNat_of_zero_le (by omega : 0 ≤ op)
  have all : ∀ k, k < 19 → 1 ≤ k → 0 < (hasL.getD k []).length ∧ (hasL.getD k []).getD 0 0 = 119 := by decide
  have := all k (by omega) (by omega)
  rw [hasOf_size_at k (by omega)]
  refine ⟨this.1, ?_⟩
  rw [chr, hasB, isB_yes (by omega) (by omega), if_pos rfl, Int.toNat_natCast]
  exact this.2
theorem has_jump {op : Int} (h : op = 19 ∨ op = 20 ∨ op = 21) : 0 < (hasOf op).size ∧ chr op 0 = 112 := by
  rcases h with rfl | rfl | rfl <;> decide
theorem writes_within {op a b c size words : Int} (h : rightB op a b c size words = true) (hw : 0 ≤ words) : -1 ≤ writesI op a ∧ writesI op a < words := by
  unfold writesI
  split
  · rename_i ho
    obtain ⟨hs, hc⟩ := has_first ⟨ho.1, ho.2.1⟩
    simp only [rightB, Bool.and_eq_true] at h
    have := h.1.2.1.1
    simp [okN, hs, hc] at this
    omega
  · omega
theorem next_within {op a b c size words at_ : Int} (h : rightB op a b c size words = true) (h0 : 0 ≤ at_) (h1 : at_ < size) (hs : size ≤ 65535) :
    ∀ p ∈ nextL op a at_, 0 ≤ p ∧ p ≤ size ∧ (p = size → at_ = size - 1) := by
  have hwr : wrap64 (at_ + 1) = at_ + 1 := IntWalk.wrap64_in _ (by omega)
  intro p hp
  simp only [rightB, Bool.and_eq_true] at h
  have hi := isB_iff.1 h.1.1
  have ha := h.1.2.1.1
  unfold nextL at hp
  rw [hwr] at hp
  split at hp
  · simp at hp
  · split at hp
    · rename_i ho
      obtain ⟨hs, hc⟩ := has_jump (op := op) (by omega)
      simp [okN, hs, hc] at ha
      simp at hp; omega
    · split at hp
      · rename_i ho
        obtain ⟨hs, hc⟩ := has_jump (op := op) (by omega)
        simp [okN, hs, hc] at ha
        simp at hp; omega
      · simp at hp; omega
theorem next_count {op a at_ : Int} (h : isB op = true) : decide ((nextL op a at_).length = 0) = decide (op = 0) := by
  unfold nextL
  rw [Bool.eq_iff_iff]
  simp only [decide_eq_true_eq]
  split
  · rename_i ho; simp [h] at ho; simp [ho]
  · rename_i ho; simp [h] at ho
    split
    · simp [ho]
    · split <;> simp [ho]
end Go.Proofs.YtecolkpnllikaaaDoor
