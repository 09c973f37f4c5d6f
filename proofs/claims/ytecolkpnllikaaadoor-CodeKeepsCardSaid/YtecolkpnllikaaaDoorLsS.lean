/- Plain laws of a text's pieces and lines: no program in sight. -/
import Derived.Test.YtecolkpnllikaaaDoorLsP
namespace Go.Proofs.YtecolkpnllikaaaDoor
open Go.Lib

/-- A text's pieces between a sign. -/
def pieces (c : UInt8) : List UInt8 → List (List UInt8)
  | [] => [[]]
  | b :: l => if b = c then [] :: pieces c l else
    match pieces c l with
    | p :: ps => (b :: p) :: ps
    | [] => [[b]]
def glue (c : UInt8) : List (List UInt8) → List UInt8
  | [] => []
  | [p] => p
  | p :: q :: ps => p ++ c :: glue c (q :: ps)
theorem pieces_ne (c : UInt8) (l : List UInt8) : pieces c l ≠ [] := by
  cases l with
  | nil => simp [pieces]
  | cons b l =>
    unfold pieces
    split
    · simp
    · split <;> simp
theorem glue_pieces (c : UInt8) : ∀ l : List UInt8, glue c (pieces c l) = l
  | [] => rfl
  | b :: l => by
    have ih := glue_pieces c l
    have hne := pieces_ne c l
    unfold pieces
    by_cases h : b = c
    · rw [if_pos h]
      cases hp : pieces c l with
      | nil => exact absurd hp hne
      | cons p ps => rw [hp] at ih; simp only [glue, List.nil_append, ih, h]
    · rw [if_neg h]
      cases hp : pieces c l with
      | nil => exact absurd hp hne
      | cons p ps =>
        rw [hp] at ih
        cases ps with
        | nil => simp only [glue] at ih ⊢; rw [ih]
        | cons q qs => simp only [glue] at ih ⊢; rw [List.cons_append, ih]
theorem pieces_plain {c : UInt8} : ∀ {p : List UInt8}, c ∉ p → pieces c p = [p]
  | [], _ => rfl
  | b :: p, h => by
    have hb : b ≠ c := fun e => h (by simp [e])
    have ih := pieces_plain (c := c) (p := p) (fun hc => h (by simp [hc]))
    unfold pieces
    rw [if_neg hb, ih]
theorem pieces_cons {c : UInt8} : ∀ {p : List UInt8} (l : List UInt8), c ∉ p → pieces c (p ++ c :: l) = p :: pieces c l
  | [], l, _ => by simp [pieces]
  | b :: p, l, h => by
    have hb : b ≠ c := fun e => h (by simp [e])
    have ih := pieces_cons (c := c) (p := p) l (fun hc => h (by simp [hc]))
    rw [List.cons_append]
    rw [pieces, if_neg hb, ih]
theorem pieces_glue {c : UInt8} : ∀ {ps : List (List UInt8)}, ps ≠ [] → (∀ p ∈ ps, c ∉ p) → pieces c (glue c ps) = ps
  | [], h, _ => absurd rfl h
  | [p], _, hp => pieces_plain (hp p (by simp))
  | p :: q :: ps, _, hp => by
    show pieces c (p ++ c :: glue c (q :: ps)) = _
    rw [pieces_cons _ (hp p (by simp)), pieces_glue (by simp) (fun x hx => hp x (by simp only [List.mem_cons] at hx ⊢; exact .inr hx))]
theorem pieces_none (c : UInt8) : ∀ (l : List UInt8) (p : List UInt8), p ∈ pieces c l → c ∉ p
  | [], p, hp => by simp [pieces] at hp; simp [hp]
  | b :: l, p, hp => by
    have ih := pieces_none c l
    have hne := pieces_ne c l
    unfold pieces at hp
    by_cases h : b = c
    · rw [if_pos h] at hp
      rcases List.mem_cons.1 hp with rfl | hp
      · simp
      · exact ih p hp
    · rw [if_neg h] at hp
      cases hq : pieces c l with
      | nil => exact absurd hq hne
      | cons q qs =>
        rw [hq] at hp ih
        rcases List.mem_cons.1 hp with rfl | hp
        · intro hc
          rcases List.mem_cons.1 hc with e | hc
          · exact h e.symm
          · exact ih q (by simp) hc
        · exact ih p (by simp [hp])
theorem glue_cons (c : UInt8) (p : List UInt8) (ps : List (List UInt8)) : glue c (p :: ps) = p ++ ps.flatMap (fun q => c :: q) := by
  induction ps generalizing p with
  | nil => simp [glue]
  | cons q qs ih =>
    show p ++ c :: glue c (q :: qs) = _
    rw [ih q]
    simp
theorem index_one_cons {b c : UInt8} (l : List UInt8) (h : b ≠ c) : index (b :: l) [c] = if index l [c] == -1 then -1 else index l [c] + 1 := by
  have hp : ([c] : List UInt8).isPrefixOf (b :: l) = false := by simp [List.isPrefixOf, Ne.symm h]
  rw [index, hp]; simp
theorem index_one_here (c : UInt8) (l : List UInt8) : index (c :: l) [c] = 0 := by
  rw [index]; simp [List.isPrefixOf]
theorem splitK_cons {b c : UInt8} (l : List UInt8) (h : b ≠ c) (k : Nat) : ∃ p ps, splitK [c] 0 k l = p :: ps ∧ splitK [c] 0 k (b :: l) = (b :: p) :: ps := by
  cases k with
  | zero => exact ⟨l, [], rfl, rfl⟩
  | succ k =>
    have hge := index_ge l [c]
    by_cases hm : index l [c] = -1
    · refine ⟨l, [], ?_, ?_⟩
      · unfold splitK; rw [if_pos (beq_iff_eq.2 hm)]
      · unfold splitK; rw [index_one_cons l h, if_pos (beq_iff_eq.2 hm), if_pos (by decide)]
    · obtain ⟨i, hi⟩ : ∃ i : Nat, index l [c] = i := ⟨(index l [c]).toNat, by omega⟩
      refine ⟨l.take i, splitK [c] 0 k (l.drop (i + 1)), ?_, ?_⟩
      · rw [splitK, if_neg (fun e => hm (beq_iff_eq.1 e)), hi]; rfl
      · have h2 : index (b :: l) [c] = ((i + 1 : Nat) : Int) := by rw [index_one_cons l h, if_neg (fun e => hm (beq_iff_eq.1 e)), hi]; omega
        rw [splitK, if_neg (fun e => by have := beq_iff_eq.1 e; omega), h2]
        simp
theorem split_pieces (c : UInt8) : ∀ l : List UInt8, split l [c] = pieces c l
  | [] => by
    unfold split
    rw [count_one]
    rfl
  | b :: l => by
    have ih := split_pieces c l
    unfold split at ih ⊢
    rw [count_one] at ih ⊢
    unfold pieces
    by_cases h : b = c
    · subst h
      rw [if_pos rfl, ← ih, List.count_cons_self, splitK, index_one_here, if_neg (by decide)]
      simp
    · rw [if_neg h, List.count_cons_of_ne h, ← ih]
      obtain ⟨p, ps, h1, h2⟩ := splitK_cons l h (l.count c)
      rw [h1, h2]
theorem split_B (c : UInt8) (s : ByteArray) : (splitB ⟨#[c]⟩ 0 (countB s ⟨#[c]⟩) s).map (·.data.toList) = pieces c s.data.toList := by
  rw [splitB_data, ← split_pieces]
  rfl

/-! ### Lines -/
theorem cut_here (c : UInt8) (l : List UInt8) : cut (c :: l) [c] = ([], l, true) := by
  unfold cut
  rw [index_one_here, if_pos (by decide)]
  rfl
theorem cut_cons {b c : UInt8} (l : List UInt8) (h : b ≠ c) : cut (b :: l) [c] = (b :: (cut l [c]).1, (cut l [c]).2.1, (cut l [c]).2.2) := by
  have hge := index_ge l [c]
  unfold cut
  rw [index_one_cons l h]
  by_cases hm : index l [c] = -1
  · rw [hm]
    simp
  · obtain ⟨i, hi⟩ : ∃ i : Nat, index l [c] = i := ⟨(index l [c]).toNat, by omega⟩
    rw [hi]
    have hb : (((i : Int) == -1) = true) = False := eq_false (fun e => by have := beq_iff_eq.1 e; omega)
    simp only [hb, if_false]
    rw [if_pos (by omega), if_pos (by omega)]
    have : ((i : Int) + 1).toNat = i + 1 := by omega
    rw [this]
    simp
theorem cut_line {c : UInt8} : ∀ {a : List UInt8} (r : List UInt8), c ∉ a → cut (a ++ c :: r) [c] = (a, r, true)
  | [], r, _ => cut_here c r
  | b :: a, r, h => by
    have hb : b ≠ c := fun e => h (by simp [e])
    rw [List.cons_append, cut_cons _ hb, cut_line r (fun hc => h (by simp [hc]))]
theorem cut_none {c : UInt8} : ∀ {a : List UInt8}, c ∉ a → cut a [c] = (a, [], false)
  | [], _ => by simp [cut, index]
  | b :: a, h => by
    have hb : b ≠ c := fun e => h (by simp [e])
    rw [cut_cons _ hb, cut_none (fun hc => h (by simp [hc]))]
/-- Either there is a line, or there is no end of one. -/
theorem cut_cases (c : UInt8) (s : List UInt8) : (∃ a r, s = a ++ c :: r ∧ c ∉ a ∧ cut s [c] = (a, r, true)) ∨ (c ∉ s ∧ cut s [c] = (s, [], false)) := by
  by_cases h : c ∈ s
  · left
    obtain ⟨a, r, rfl, ha⟩ := List.eq_append_cons_of_mem h
    exact ⟨a, r, rfl, ha, cut_line r ha⟩
  · exact .inr ⟨h, cut_none h⟩
theorem cut_shorter (s : List UInt8) (c : UInt8) (h : s ≠ []) : (cut s [c]).2.1.length < s.length := by
  rcases cut_cases c s with ⟨a, r, e, _, h2⟩ | ⟨_, h2⟩
  · rw [h2, e]; simp; omega
  · rw [h2]
    cases s with
    | nil => exact absurd rfl h
    | cons b l => simp
end Go.Proofs.YtecolkpnllikaaaDoor
