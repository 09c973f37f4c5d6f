/- Purses, plain: what any deed keeps, and what it answers when it is not let. Nothing of the program stands in it, so there is no condition. -/
import Derived.Test.YthhiookcknnmdaaGreatPuK
namespace Go.Proofs.YthhiookcknnmdaaGreat

theorem free_ok {p : Pu} {n : D8} {over : Int} (h : (p.free n over).1 = 0) : p.next = 0 ∧ 0 ≤ placeL p.held n ∧ (0 ≤ over ∧ over ≤ (p.held.getD (placeL p.held n).toNat default).am) ∧ (p.free n over).2 = (p.part (placeL p.held n).toNat over).more := by
 unfold Pu.free at h ⊢
 by_cases hn : p.next = 0
 ·rw [if_pos hn] at h ⊢
  by_cases h1 : placeL p.held n < 0
  ·rw [if_pos h1] at h; exact absurd h (by decide)
  ·rw [if_neg h1] at h ⊢
   by_cases h2 : over < 0 ∨ (p.held.getD (placeL p.held n).toNat default).am < over
   ·rw [if_pos h2] at h; exact absurd h (by decide)
   ·rw [if_neg h2]
    exact ⟨hn, by omega, by omega, rfl⟩
 ·rw [if_neg hn] at h; exact absurd h hn
theorem back_ok {p : Pu} {n : D8} {now : Int} (h : (p.back n now).1 = 0) : p.next = 0 ∧ 0 ≤ placeL p.held n ∧ ¬ now ≤ (p.held.getD (placeL p.held n).toNat default).un ∧ (p.back n now).2 = (p.part (placeL p.held n).toNat 0).more := by
 unfold Pu.back at h ⊢
 by_cases hn : p.next = 0
 ·rw [if_pos hn] at h ⊢
  by_cases h1 : placeL p.held n < 0
  ·rw [if_pos h1] at h; exact absurd h (by decide)
  ·rw [if_neg h1] at h ⊢
   by_cases h2 : now ≤ (p.held.getD (placeL p.held n).toNat default).un
   ·rw [if_pos h2] at h; exact absurd h (by decide)
   ·rw [if_neg h2]
    exact ⟨hn, by omega, h2, rfl⟩
 ·rw [if_neg hn] at h; exact absurd h hn
theorem keep_free {p : Pu} {n : D8} {over : Int} (h : (p.free n over).1 = 0) : PKept p (p.free n over).2 := by
 obtain ⟨hn, h1, h2, h3⟩ := free_ok h
 rw [h3]
 exact keep_part hn (placeL_yes h1).1 h2
theorem keep_back {p : Pu} {n : D8} {now : Int} (h : (p.back n now).1 = 0) : PKept p (p.back n now).2 := by
 obtain ⟨hn, h1, h2, h3⟩ := back_ok h
 rw [h3]
 have hk := (placeL_yes h1).1
 obtain ⟨_, _, _, _, ⟨c5, _⟩, _⟩ := check_iff.1 (next_ok hn).1
 have := (c5 _ (mem_getD hk)).1
 exact keep_part hn hk ⟨Int.le_refl _, by omega⟩
theorem deed_kept {p : Pu} {d : Dd} (h : (p.deed d).1 = 0) : PKept p (p.deed d).2 := by
 unfold Pu.deed at h ⊢
 by_cases h0 : d.w % 4 = 0
 ·rw [if_pos h0] at h ⊢; exact keep_pay h
 ·rw [if_neg h0] at h ⊢
  by_cases h1 : d.w % 4 = 1
  ·rw [if_pos h1] at h ⊢; exact keep_hold h
  ·rw [if_neg h1] at h ⊢
   by_cases h2 : d.w % 4 = 2
   ·rw [if_pos h2] at h ⊢; exact keep_free h
   ·rw [if_neg h2] at h ⊢; exact keep_back h
theorem pay_no {p : Pu} {fr am : Int} (h : (p.pay fr am).1 ≠ 0) : (p.pay fr am).2 = pu0 := by
 unfold Pu.pay at h ⊢
 split
 ·rename_i hn
  rw [if_pos hn] at h
  split
  ·rfl
  ·rename_i h1
   rw [if_neg h1] at h
   split
   ·rename_i h2
    rw [if_pos h2] at h
    split
    ·rfl
    ·rename_i h3; rw [if_neg h3] at h; exact absurd rfl h
   ·rfl
 ·rfl
theorem hold_no {p : Pu} {d : Hd} (h : (p.hold d).1 ≠ 0) : (p.hold d).2 = pu0 := by
 unfold Pu.hold at h ⊢
 split
 ·rename_i hn
  rw [if_pos hn] at h
  split
  ·rfl
  ·rename_i h1
   rw [if_neg h1] at h
   split
   ·rename_i h2
    rw [if_pos h2] at h
    split
    ·rfl
    ·rename_i h3
     rw [if_neg h3] at h
     split
     ·rfl
     ·rename_i h4
      rw [if_neg h4] at h
      split
      ·rfl
      ·rename_i h5; rw [if_neg h5] at h; exact absurd rfl h
   ·rfl
 ·rfl
theorem free_no {p : Pu} {n : D8} {over : Int} (h : (p.free n over).1 ≠ 0) : (p.free n over).2 = pu0 := by
 unfold Pu.free at h ⊢
 split
 ·rename_i hn
  rw [if_pos hn] at h
  split
  ·rfl
  ·rename_i h1
   rw [if_neg h1] at h
   split
   ·rfl
   ·rename_i h2; rw [if_neg h2] at h; exact absurd rfl h
 ·rfl
theorem back_no {p : Pu} {n : D8} {now : Int} (h : (p.back n now).1 ≠ 0) : (p.back n now).2 = pu0 := by
 unfold Pu.back at h ⊢
 split
 ·rename_i hn
  rw [if_pos hn] at h
  split
  ·rfl
  ·rename_i h1
   rw [if_neg h1] at h
   split
   ·rfl
   ·rename_i h2; rw [if_neg h2] at h; exact absurd rfl h
 ·rfl
theorem deed_no {p : Pu} {d : Dd} (h : (p.deed d).1 ≠ 0) : (p.deed d).2 = pu0 := by
 unfold Pu.deed at h ⊢
 by_cases h0 : d.w % 4 = 0
 ·rw [if_pos h0] at h ⊢; exact pay_no h
 ·rw [if_neg h0] at h ⊢
  by_cases h1 : d.w % 4 = 1
  ·rw [if_pos h1] at h ⊢; exact hold_no h
  ·rw [if_neg h1] at h ⊢
   by_cases h2 : d.w % 4 = 2
   ·rw [if_pos h2] at h ⊢; exact free_no h
   ·rw [if_neg h2] at h ⊢; exact back_no h
theorem kept_total {p q : Pu} (h : PKept p q) : q.total = p.total := by
 unfold Pu.total; rw [if_pos h.was, if_pos h.fits, h.sum]
theorem same_refl (p : Pu) : p.same p = true := Pu.same_iff.2 rfl
theorem deed_len {p : Pu} {d : Dd} : (p.deed d).2.held.length ≤ 1000000 := by
 by_cases h : (p.deed d).1 = 0
 ·have := (check_iff.1 (deed_kept h).fits).2.2.2.1; omega
 ·rw [deed_no h]; decide
def Pu.upto (p : Pu) (k : Int) : Pu := { p with no := p.no + k }
theorem outL_last (l : List Hd) (h : Hd) : outL (l ++ [h]) l.length = l := by unfold outL; simp
theorem outL_snoc {l : List Hd} {k : Nat} (hk : k < l.length) (h : Hd) : outL (l ++ [h]) k = outL l k ++ [h] := by
 unfold outL
 rw [List.take_append_of_le_length (by omega), List.drop_append_of_le_length (by omega), List.append_assoc]
theorem getD_snoc {l : List Hd} {k : Nat} (hk : k < l.length) (h : Hd) : (l ++ [h]).getD k default = l.getD k default := by
 rw [List.getD_eq_getElem?_getD, List.getElem?_append_left hk, ← List.getD_eq_getElem?_getD]
theorem getD_last (l : List Hd) (h : Hd) : (l ++ [h]).getD l.length default = h := by
 rw [List.getD_eq_getElem?_getD, List.getElem?_append_right (Nat.le_refl _)]; simp
theorem placeL_one (h : Hd) (n : D8) : placeL [h] n = if h.nm = n then 0 else -1 := by
 rw [placeL_cons]; rfl
theorem hold_place {l : List Hd} {h : Hd} (hp : placeL l h.nm < 0) : placeL (l ++ [h]) h.nm = l.length := by
 rw [placeL_append, if_pos hp, placeL_one, if_pos rfl]; simp
theorem hold_place_other {l : List Hd} {h : Hd} {n : D8} (hn : h.nm ≠ n) : placeL (l ++ [h]) n = placeL l n := by
 rw [placeL_append, placeL_one, if_neg hn]
 have := placeL_lo l n
 by_cases h1 : placeL l n < 0
 ·rw [if_pos h1]; simp only [show ((-1 : Int) < 0) from by decide, if_true]; omega
 ·rw [if_neg h1]
theorem part_held {p q : Pu} {h : Hd} (hf : h.fr = 0 ∨ h.fr = 1) (hq : q = ({ p.add h.fr (-h.am) with held := p.held ++ [h] } : Pu).more) : (q.part p.held.length 0).more = p.upto 2 := by
 have hg : q.held.getD p.held.length default = h := by rw [hq]; exact getD_last _ _
 rw [part_eq (by rw [hg]; exact hf), hg]
 obtain ⟨nm, no, h0, h1, l⟩ := p
 rw [hq]
 rcases hf with hf | hf
 ·simp only [hf, Pu.add, if_true, Pu.more, Pu.upto, outL_last, Pu.mk.injEq, true_and, and_true]
  omega
 ·have e1 : ¬ ((1 : Int) = 0) := by decide
  simp only [hf, Pu.add, if_neg e1, Pu.more, Pu.upto, outL_last, Pu.mk.injEq, true_and, and_true]
  omega
end Go.Proofs.YthhiookcknnmdaaGreat
