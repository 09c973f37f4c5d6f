/- What a signature is split into, plainly. Nothing of the program stands in it, so there is no condition. What a ring's bytes are read as, plainly. Nothing of the program stands in it, so there is no condition. A ring's bytes have one writing, plainly. Nothing of the program stands in it, so there is no condition. -/
import Derived.Test.YtmpklplojfjfbaaKgI
import Derived.Test.YtmpklplojfjfbaaKeV
import Derived.Test.YtmpklplojfjfbaaKgP
import Derived.Test.YtmpklplojfjfbaaJoinV
namespace Go.Proofs.Ytmpklplojfjfbaa
open Go.RowKit Go.Lib
theorem chunks_of (l : List D8) : (List.range l.length).map (fun i => chunk (l.flatMap D8.bytes) i) = l := by
  have hl : l.flatMap D8.bytes = (List.range l.length).flatMap fun c => (l.getD c D8.zero).bytes := by
    have : l = (List.range l.length).map fun c => l.getD c D8.zero := by
      apply List.ext_getElem
      · simp
      · intro i h1 h2
        simp [List.getD_eq_getElem?_getD, List.getElem?_eq_getElem h1]
    conv => lhs; rw [this]
    rw [List.flatMap_map]
  apply List.ext_getElem
  · simp
  · intro i h1 h2
    rw [List.getElem_map, List.getElem_range, hl]
    have := flatB_chunk (fun c => l.getD c D8.zero) [] l.length i h2
    rw [List.append_nil] at this
    rw [this, List.getD_eq_getElem?_getD, List.getElem?_eq_getElem h2]
    rfl
/-- A signature of the form is split into what it was made of. -/
theorem split_made {i h : Nat} {o : List Nat} {pl : List D8} (hh : h ≤ 8) (hi : i < 2 ^ h) (ho : o.length = 144) (hp : pl.length = h) : splitN (encN i ++ o ++ pl.flatMap D8.bytes) = some (i, o, pl) := by
  obtain ⟨l, hl⟩ : ∃ l, l = encN i ++ o ++ pl.flatMap D8.bytes := ⟨_, rfl⟩
  rw [← hl]
  have hp8 := (pow_le8 hh).2
  have hi255 : i ≤ 255 := by generalize 2 ^ h = q at *; omega
  have hd0 : l.drop 0 = encN i ++ (o ++ pl.flatMap D8.bytes) := by rw [hl]; simp
  obtain ⟨e1, e2⟩ := numRS_step (most := 255) hd0 (by omega) hi255
  have hlen : (o ++ pl.flatMap D8.bytes).length = 144 + 8 * h := by rw [List.length_append, flatB_take_len, ho, hp]
  have hq : (144 + 8 * h - 144) / 8 = h := by omega
  unfold splitN splitS
  rw [e1]
  simp only
  rw [if_neg (by simp), e2]
  unfold splitR
  rw [hlen, hq, if_neg (by omega), if_neg (by omega), if_neg (by omega), if_neg (by omega), ← ho, List.take_left, List.drop_left, ← hp, chunks_of]
theorem index_sign {r : RingM} (hr : r.ok) {m : D8} (he : (r.sign m).2.2 = 0) : indexN (r.sign m).2.1 = ((r.reserve m).2.1, true) := by
  have he2 : (r.reserve m).2.2 = 0 := by
    unfold RingM.sign at he
    simp only at he
    split at he
    · rename_i h; exact h
    · exact he
  have hi := reserve_lt hr he2
  have hh := (RingM.reserve_secret r m).2
  have e : (r.sign m).2.1 = (r.reserve m).1.sigB (r.reserve m).2.1 m := by
    unfold RingM.sign
    simp only
    rw [if_pos he2]
  rw [e]
  unfold RingM.sigB indexN
  rw [split_made (h := (r.reserve m).1.h) (by rw [hh]; exact hr.2.1) (by rw [hh]; exact hi) (onceB_len _ _) (pathD_len _ _ _)]
end Go.Proofs.Ytmpklplojfjfbaa
namespace Go.Proofs.Ytmpklplojfjfbaa
open Go.RowKit Go.Lib
theorem digestS_step {l : List Nat} {at_ : Nat} {d : D8} {r : List Nat} (hd : l.drop at_ = encB d.bytes ++ r) : digestS ⟨l, at_, 0⟩ = (⟨l, at_ + (encB d.bytes).length, 0⟩, 0, d) := by
  have h := bytesRS_step (most := 8) hd (by rw [bytes_len]; decide) (by rw [bytes_len]; decide)
  unfold digestS
  rw [h.1]
  rfl
theorem drop_step {l a r : List Nat} {at_ : Nat} (h : l.drop at_ = a ++ r) : l.drop (at_ + a.length) = r := by
  rw [← List.drop_drop, h, List.drop_left]
theorem openL_all {l : List Nat} : ∀ (rest : List D8) (led : List D8) (at_ : Nat), l.drop at_ = rest.flatMap (fun d => encB d.bytes) → (led ++ rest).Nodup → ∃ at', openL ⟨l, at_, 0⟩ led rest.length = (⟨l, at', 0⟩, led ++ rest, 0) ∧ l.drop at' = []
  | [], led, at_, hd, _ => ⟨at_, by simp [openL], hd⟩
  | d :: rest, led, at_, hd, hn => by
    rw [List.flatMap_cons] at hd
    have hs := digestS_step hd
    have hnd : posD led d = none := by
      rw [posD_none]
      intro hm
      have := List.nodup_append.1 hn
      exact this.2.2 d hm d (by simp) rfl
    obtain ⟨at', h1, h2⟩ := openL_all rest (led ++ [d]) _ (drop_step hd) (by rw [List.append_assoc]; exact hn)
    refine ⟨at', ?_, h2⟩
    show (if (digestS ⟨l, at_, 0⟩).2.1 ≠ 0 then _ else if posD led (digestS ⟨l, at_, 0⟩).2.2 ≠ none then _ else openL (digestS ⟨l, at_, 0⟩).1 (led ++ [(digestS ⟨l, at_, 0⟩).2.2]) rest.length) = _
    rw [hs]
    simp only [ne_eq, not_true_eq_false, if_false, hnd]
    rw [h1, List.append_assoc]
    rfl
theorem open_save {r : RingM} (h : r.ok) : openN (saveB r) = (some r, 0) := by
  obtain ⟨h1, h2, h3, h4, h5⟩ := h
  have hp := pow_le8 h2
  obtain ⟨l, hl⟩ : ∃ l, l = saveB r := ⟨_, rfl⟩
  rw [← hl]
  have hd0 : l.drop 0 = encB r.secret.bytes ++ (encN r.h ++ (encN r.led.length ++ r.led.flatMap fun d => encB d.bytes)) := by
    rw [hl]; simp [saveB, saveH]
  have e1 := digestS_step hd0
  have hd1 := drop_step hd0
  have e2 := numRS_step (most := 8) hd1 (by omega) h2
  have hd2 := drop_step hd1
  have e3 := numRS_step (most := 2 ^ r.h) hd2 (by omega) h5
  have hd3 := drop_step hd2
  obtain ⟨at', e4, e5⟩ := openL_all r.led [] _ hd3 (by simpa using h3)
  have e6 : endRS ⟨l, at', 0⟩ = 0 := by
    have : l.length ≤ at' := List.drop_eq_nil_iff.1 e5
    unfold endRS
    simp only [ne_eq, not_true_eq_false, if_false]
    rw [if_neg (by omega)]
  have eh : openH l = (⟨l, 0 + (encB r.secret.bytes).length + (encN r.h).length + (encN r.led.length).length, 0⟩, 0, r.secret, r.h, r.led.length) := by
    unfold openH
    simp only [e1]
    unfold numberS
    simp only [ne_eq, not_true_eq_false, if_false, e2.1, e3.1]
  unfold openN
  simp only [eh, ne_eq, not_true_eq_false, if_false, e4, e6, List.nil_append]
theorem enc_lt2 {i : Nat} (h : i < 16384) : ∀ x ∈ encN i, x < 256 := by
  unfold encN
  by_cases h1 : i < 128
  · rw [enc7_small h1]; intro x hx; simp at hx; omega
  · rw [enc7_big h1, enc7_small (show i / 128 < 128 by omega)]; intro x hx; simp at hx; omega
theorem saveB_lt {r : RingM} (h : r.ok) : ∀ x ∈ saveB r, x < 256 := by
  obtain ⟨h1, h2, h3, h4, h5⟩ := h
  have hp := (pow_le8 h2).2
  have he : ∀ d : D8, d.ok → ∀ x ∈ encB d.bytes, x < 256 := fun d hd x hx => by
    unfold encB at hx
    rcases List.mem_append.1 hx with hx | hx
    · exact enc_lt2 (by rw [bytes_len]; decide) x hx
    · exact D8.bytes_lt hd x hx
  have hl : r.led.length < 16384 := Nat.lt_of_le_of_lt (Nat.le_trans h5 hp) (by decide)
  intro x hx
  simp only [saveB, saveH, List.mem_append] at hx
  rcases hx with ((hx | hx) | hx) | hx
  · exact he _ h1 x hx
  · exact enc_lt2 (by omega) x hx
  · exact enc_lt2 hl x hx
  · simp only [List.mem_flatMap] at hx
    obtain ⟨d, hd, hx⟩ := hx
    exact he d (h4 d hd) x hx
theorem saveB_len {r : RingM} (h : r.ok) : (saveB r).length ≤ 5000 := by
  have hp := (pow_le8 h.2.1).2
  have h5 := Nat.le_trans h.2.2.2.2 hp
  have := saveH_len r
  have := flatE_len r.led
  unfold saveB
  rw [List.length_append]
  omega
end Go.Proofs.Ytmpklplojfjfbaa
namespace Go.Proofs.Ytmpklplojfjfbaa
open Go.RowKit Go.Lib
theorem chunk_back {b : List Nat} (h : b.length = 8) : (chunk b 0).bytes = b := by
  match b, h with
  | [a0, a1, a2, a3, a4, a5, a6, a7], _ => rfl
theorem bytesRS_l (s : RS) (m : Nat) : (bytesRS s m).1.l = s.l := by
  unfold bytesRS
  split
  · rfl
  · split <;> rfl
theorem digestS_l (s : RS) : (digestS s).1.l = s.l := bytesRS_l s 8
theorem digestS_one {s : RS} (hb : ∀ x ∈ s.l, x < 256) (h : (digestS s).2.1 = 0) : (digestS s).1.err = 0 ∧ s.l.drop s.at_ = encB (digestS s).2.2.bytes ++ s.l.drop (digestS s).1.at_ := by
  unfold digestS at h ⊢
  simp only at h ⊢
  by_cases he : (bytesRS s 8).1.err = 0
  · rw [if_neg (by simpa using he)] at h ⊢
    by_cases hl : (bytesRS s 8).2.length = 8
    · rw [if_neg (by simpa using hl)] at h ⊢
      rw [chunk_back hl]
      exact ⟨he, (bytesRS_one hb he).2⟩
    · rw [if_pos hl] at h; cases h
  · rw [if_pos he] at h; exact absurd h he
theorem numberS_one {s : RS} {err : Int} {m : Nat} (hb : ∀ x ∈ s.l, x < 256) (h : (numberS s err m).2.1 = 0) : err = 0 ∧ (numberS s err m).1.l = s.l ∧ (numberS s err m).1.err = 0 ∧ s.l.drop s.at_ = encN (numberS s err m).2.2 ++ s.l.drop (numberS s err m).1.at_ := by
  unfold numberS at h ⊢
  by_cases he : err = 0
  · rw [if_neg (by simpa using he)] at h ⊢
    simp only at h ⊢
    exact ⟨he, numRS_l s m, h, (numRS_one hb h).2⟩
  · rw [if_pos he] at h; exact absurd h he
theorem openL_one : ∀ (k : Nat) (s : RS) (led : List D8), (∀ x ∈ s.l, x < 256) → s.err = 0 → (openL s led k).2.2 = 0 →
    ∃ ds, (openL s led k).2.1 = led ++ ds ∧ ds.length = k ∧ (openL s led k).1.l = s.l ∧ (openL s led k).1.err = 0 ∧ s.l.drop s.at_ = ds.flatMap (fun d => encB d.bytes) ++ s.l.drop (openL s led k).1.at_
  | 0, s, led, _, he, _ => ⟨[], by simp [openL], rfl, rfl, he, by simp [openL]⟩
  | k + 1, s, led, hb, he, h => by
    unfold openL at h ⊢
    by_cases h1 : (digestS s).2.1 = 0
    · rw [if_neg (by simpa using h1)] at h ⊢
      by_cases h2 : posD led (digestS s).2.2 = none
      · rw [if_neg (by simpa using h2)] at h ⊢
        obtain ⟨g1, g2⟩ := digestS_one hb h1
        have hl := digestS_l s
        obtain ⟨ds, e1, e2, e3, e4, e5⟩ := openL_one k (digestS s).1 (led ++ [(digestS s).2.2]) (by rw [hl]; exact hb) g1 h
        refine ⟨(digestS s).2.2 :: ds, by rw [e1]; simp, by simp [e2], e3.trans hl, e4, ?_⟩
        rw [g2, List.flatMap_cons, List.append_assoc]
        congr 1
        rw [hl] at e5
        exact e5
      · rw [if_pos h2] at h; cases h
    · rw [if_pos h1] at h; exact absurd h h1
theorem save_open {l : List Nat} (hb : ∀ x ∈ l, x < 256) {r : RingM} (h : (openN l).1 = some r) : saveB r = l := by
  unfold openN openH at h
  simp only at h
  generalize e1 : digestS ⟨l, 0, 0⟩ = x1 at h
  generalize e2 : numberS x1.1 x1.2.1 8 = x2 at h
  generalize e3 : numberS x2.1 x2.2.1 (2 ^ x2.2.2) = x3 at h
  by_cases h3 : x3.2.1 = 0
  · simp only [h3, ne_eq, not_true_eq_false, if_false] at h
    generalize e4 : openL x3.1 [] x3.2.2 = y at h
    by_cases h4 : y.2.2 = 0
    · simp only [h4, ne_eq, not_true_eq_false, if_false] at h
      by_cases h5 : endRS y.1 = 0
      · simp only [h5, not_true_eq_false, if_false, Option.some.injEq] at h
        have hb1 : ∀ x ∈ (⟨l, 0, 0⟩ : RS).l, x < 256 := hb
        have l1 : x1.1.l = l := by rw [← e1]; exact digestS_l _
        have hb2 : ∀ x ∈ x1.1.l, x < 256 := by rw [l1]; exact hb
        have n3 : (numberS x2.1 x2.2.1 (2 ^ x2.2.2)).2.1 = 0 := by rw [e3]; exact h3
        have l2 : x2.1.l = l := by
          rw [← e2]; unfold numberS
          split
          · exact l1
          · exact (numRS_l _ _).trans l1
        have hb3 : ∀ x ∈ x2.1.l, x < 256 := by rw [l2]; exact hb
        obtain ⟨a1, a2, a3, a4⟩ := numberS_one hb3 n3
        rw [e3] at a2 a3 a4
        have n2 : (numberS x1.1 x1.2.1 8).2.1 = 0 := by rw [e2]; exact a1
        obtain ⟨b1, b2, b3, b4⟩ := numberS_one hb2 n2
        rw [e2] at b2 b3 b4
        have n1 : (digestS ⟨l, 0, 0⟩).2.1 = 0 := by rw [e1]; exact b1
        obtain ⟨c1, c2⟩ := digestS_one hb1 n1
        rw [e1] at c1 c2
        have l3 : x3.1.l = l := a2.trans l2
        obtain ⟨ds, d1, d2, d3, d4, d5⟩ := openL_one x3.2.2 x3.1 [] (by rw [l3]; exact hb) a3 (by rw [e4]; exact h4)
        rw [e4] at d1 d3 d4 d5
        have hend : l.drop y.1.at_ = [] := by
          have hyl : y.1.l = l := d3.trans l3
          unfold endRS at h5
          rw [if_neg (by simpa using d4), hyl] at h5
          by_cases hlt : y.1.at_ < l.length
          · rw [if_pos hlt] at h5; cases h5
          · exact List.drop_eq_nil_iff.2 (by omega)
        rw [l3] at d5
        rw [l2] at a4
        rw [l1] at b4
        simp only [List.drop_zero] at c2
        rw [hend, List.append_nil] at d5
        rw [← h, c2, b4, a4, d5]
        unfold saveB saveH
        simp only
        rw [d1, List.nil_append, d2]
        simp only [List.append_assoc]
      · simp only [h5, not_false_eq_true, if_true] at h; cases h
    · simp only [ne_eq, h4, not_false_eq_true, if_true] at h; cases h
  · simp only [ne_eq, h3, not_false_eq_true, if_true] at h; cases h
end Go.Proofs.Ytmpklplojfjfbaa
