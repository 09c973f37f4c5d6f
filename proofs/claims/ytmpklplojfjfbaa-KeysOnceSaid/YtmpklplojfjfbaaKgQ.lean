/- What a ring's bytes are read as, plainly. Nothing of the program stands in it, so there is no condition. -/
import Derived.Test.YtmpklplojfjfbaaKgP
import Derived.Test.YtmpklplojfjfbaaOctLaw
namespace Go.Proofs.Ytmpklplojfjfbaa
open Go.RowKit Go.Lib
theorem digestS_step {l : List Nat} {at_ : Nat} {d : D8} {r : List Nat} (hd : l.drop at_ = encB d.bytes ++ r) : digestS ⟨l, at_, 0⟩ = (⟨l, at_ + (encB d.bytes).length, 0⟩, 0, d) := by
  have h := bytesRS_step (most := 8) hd (by rw [bytes_len]; decide) (by rw [bytes_len]; decide)
  unfold digestS
  rw [h.1]
  rfl
theorem drop_step {l a r : List Nat} {at_ : Nat} (h : l.drop at_ = a ++ r) : l.drop (at_ + a.length) = r := by
  rw [← List.drop_drop, h, List.drop_left]
theorem openL_all {l : List Nat} : ∀ (rest : List D8) (led : List D8) (at_ : Nat), l.drop at_ = rest.flatMap (fun d => encB d.bytes) → (led ++ rest).Nodup → ∃ at', openL ⟨l, at_, 0⟩ led rest.length = (⟨l, at', 0⟩, led ++ rest, 0) ∧ l.drop at' = []
  | [], led, at_, hd, _ => ⟨at_, by simp [openL], hd⟩
  | d :: rest, led, at_, hd, hn => by
    rw [List.flatMap_cons] at hd
    have hs := digestS_step hd
    have hnd : posD led d = none := by
      rw [posD_none]
      intro hm
      have := List.nodup_append.1 hn
      exact this.2.2 d hm d (by simp) rfl
    obtain ⟨at', h1, h2⟩ := openL_all rest (led ++ [d]) _ (drop_step hd) (by rw [List.append_assoc]; exact hn)
    refine ⟨at', ?_, h2⟩
    show (if (digestS ⟨l, at_, 0⟩).2.1 ≠ 0 then _ else if posD led (digestS ⟨l, at_, 0⟩).2.2 ≠ none then _ else openL (digestS ⟨l, at_, 0⟩).1 (led ++ [(digestS ⟨l, at_, 0⟩).2.2]) rest.length) = _
    rw [hs]
    simp only [ne_eq, not_true_eq_false, if_false, hnd]
    rw [h1, List.append_assoc]
    rfl
theorem open_save {r : RingM} (h : r.ok) : openN (saveB r) = (some r, 0) := by
  obtain ⟨h1, h2, h3, h4, h5⟩ := h
  have hp := pow_le8 h2
  obtain ⟨l, hl⟩ : ∃ l, l = saveB r := ⟨_, rfl⟩
  rw [← hl]
  have hd0 : l.drop 0 = encB r.secret.bytes ++ (encN r.h ++ (encN r.led.length ++ r.led.flatMap fun d => encB d.bytes)) := by
    rw [hl]; simp [saveB, saveH]
  have e1 := digestS_step hd0
  have hd1 := drop_step hd0
  have e2 := numRS_step (most := 8) hd1 (by omega) h2
  have hd2 := drop_step hd1
  have e3 := numRS_step (most := 2 ^ r.h) hd2 (by omega) h5
  have hd3 := drop_step hd2
  obtain ⟨at', e4, e5⟩ := openL_all r.led [] _ hd3 (by simpa using h3)
  have e6 : endRS ⟨l, at', 0⟩ = 0 := by
    have : l.length ≤ at' := List.drop_eq_nil_iff.1 e5
    unfold endRS
    simp only [ne_eq, not_true_eq_false, if_false]
    rw [if_neg (by omega)]
  have eh : openH l = (⟨l, 0 + (encB r.secret.bytes).length + (encN r.h).length + (encN r.led.length).length, 0⟩, 0, r.secret, r.h, r.led.length) := by
    unfold openH
    simp only [e1]
    unfold numberS
    simp only [ne_eq, not_true_eq_false, if_false, e2.1, e3.1]
  unfold openN
  simp only [eh, ne_eq, not_true_eq_false, if_false, e4, e6, List.nil_append]
theorem chunks_of (l : List D8) : (List.range l.length).map (fun i => chunk (l.flatMap D8.bytes) i) = l := by
  have hl : l.flatMap D8.bytes = (List.range l.length).flatMap fun c => (l.getD c D8.zero).bytes := by
    have : l = (List.range l.length).map fun c => l.getD c D8.zero := by
      apply List.ext_getElem
      · simp
      · intro i h1 h2
        simp [List.getD_eq_getElem?_getD, List.getElem?_eq_getElem h1]
    conv => lhs; rw [this]
    rw [List.flatMap_map]
  apply List.ext_getElem
  · simp
  · intro i h1 h2
    rw [List.getElem_map, List.getElem_range, hl]
    have := flatB_chunk (fun c => l.getD c D8.zero) [] l.length i h2
    rw [List.append_nil] at this
    rw [this, List.getD_eq_getElem?_getD, List.getElem?_eq_getElem h2]
    rfl
/-- A signature of the form is split into what it was made of. -/
theorem split_made {i h : Nat} {o : List Nat} {pl : List D8} (hh : h ≤ 8) (hi : i < 2 ^ h) (ho : o.length = 144) (hp : pl.length = h) : splitN (encN i ++ o ++ pl.flatMap D8.bytes) = some (i, o, pl) := by
  obtain ⟨l, hl⟩ : ∃ l, l = encN i ++ o ++ pl.flatMap D8.bytes := ⟨_, rfl⟩
  rw [← hl]
  have hp8 := (pow_le8 hh).2
  have hi255 : i ≤ 255 := by generalize 2 ^ h = q at *; omega
  have hd0 : l.drop 0 = encN i ++ (o ++ pl.flatMap D8.bytes) := by rw [hl]; simp
  obtain ⟨e1, e2⟩ := numRS_step (most := 255) hd0 (by omega) hi255
  have hlen : (o ++ pl.flatMap D8.bytes).length = 144 + 8 * h := by rw [List.length_append, flatB_take_len, ho, hp]
  have hq : (144 + 8 * h - 144) / 8 = h := by omega
  unfold splitN splitS
  rw [e1]
  simp only
  rw [if_neg (by simp), e2]
  unfold splitR
  rw [hlen, hq, if_neg (by omega), if_neg (by omega), if_neg (by omega), if_neg (by omega), ← ho, List.take_left, List.drop_left, ← hp, chunks_of]
theorem index_sign {r : RingM} (hr : r.ok) {m : D8} (he : (r.sign m).2.2 = 0) : indexN (r.sign m).2.1 = ((r.reserve m).2.1, true) := by
  have he2 : (r.reserve m).2.2 = 0 := by
    unfold RingM.sign at he
    simp only at he
    split at he
    · rename_i h; exact h
    · exact he
  have hi := reserve_lt hr he2
  have hh := (RingM.reserve_secret r m).2
  have e : (r.sign m).2.1 = (r.reserve m).1.sigB (r.reserve m).2.1 m := by
    unfold RingM.sign
    simp only
    rw [if_pos he2]
  rw [e]
  unfold RingM.sigB indexN
  rw [split_made (h := (r.reserve m).1.h) (by rw [hh]; exact hr.2.1) (by rw [hh]; exact hi) (onceB_len _ _) (pathD_len _ _ _)]
theorem enc_lt2 {i : Nat} (h : i < 16384) : ∀ x ∈ encN i, x < 256 := by
  unfold encN
  by_cases h1 : i < 128
  · rw [enc7_small h1]; intro x hx; simp at hx; omega
  · rw [enc7_big h1, enc7_small (show i / 128 < 128 by omega)]; intro x hx; simp at hx; omega
theorem saveB_lt {r : RingM} (h : r.ok) : ∀ x ∈ saveB r, x < 256 := by
  obtain ⟨h1, h2, h3, h4, h5⟩ := h
  have hp := (pow_le8 h2).2
  have he : ∀ d : D8, d.ok → ∀ x ∈ encB d.bytes, x < 256 := fun d hd x hx => by
    unfold encB at hx
    rcases List.mem_append.1 hx with hx | hx
    · exact enc_lt2 (by rw [bytes_len]; decide) x hx
    · exact D8.bytes_lt hd x hx
  have hl : r.led.length < 16384 := Nat.lt_of_le_of_lt (Nat.le_trans h5 hp) (by decide)
  intro x hx
  simp only [saveB, saveH, List.mem_append] at hx
  rcases hx with ((hx | hx) | hx) | hx
  · exact he _ h1 x hx
  · exact enc_lt2 (by omega) x hx
  · exact enc_lt2 hl x hx
  · simp only [List.mem_flatMap] at hx
    obtain ⟨d, hd, hx⟩ := hx
    exact he d (h4 d hd) x hx
theorem saveB_len {r : RingM} (h : r.ok) : (saveB r).length ≤ 5000 := by
  have hp := (pow_le8 h.2.1).2
  have h5 := Nat.le_trans h.2.2.2.2 hp
  have := saveH_len r
  have := flatE_len r.led
  unfold saveB
  rw [List.length_append]
  omega
end Go.Proofs.Ytmpklplojfjfbaa
