/- Purses, plain: what any deed keeps, and what it answers when it is not let. Nothing of the program stands in it, so there is no condition. Purses, plain: what is held and given back is as if nothing had been. Nothing of the program stands in it, so there is no condition. -/
import Derived.Test.YthhiookcknnmdaaGreatPuK
namespace Go.Proofs.YthhiookcknnmdaaGreat

theorem free_ok {p : Pu} {n : D8} {over : Int} (h : (p.free n over).1 = 0) : p.next = 0 ∧ 0 ≤ placeL p.held n ∧ (0 ≤ over ∧ over ≤ (p.held.getD (placeL p.held n).toNat default).am) ∧ (p.free n over).2 = (p.part (placeL p.held n).toNat over).more := by
 unfold Pu.free at h ⊢
 by_cases hn : p.next = 0
 ·rw [if_pos hn] at h ⊢
  by_cases h1 : placeL p.held n < 0
  ·rw [if_pos h1] at h; exact absurd h (by decide)
  ·rw [if_neg h1] at h ⊢
   by_cases h2 : over < 0 ∨ (p.held.getD (placeL p.held n).toNat default).am < over
   ·rw [if_pos h2] at h; exact absurd h (by decide)
   ·rw [if_neg h2]
    exact ⟨hn, by omega, by omega, rfl⟩
 ·rw [if_neg hn] at h; exact absurd h hn
theorem back_ok {p : Pu} {n : D8} {now : Int} (h : (p.back n now).1 = 0) : p.next = 0 ∧ 0 ≤ placeL p.held n ∧ ¬ now ≤ (p.held.getD (placeL p.held n).toNat default).un ∧ (p.back n now).2 = (p.part (placeL p.held n).toNat 0).more := by
 unfold Pu.back at h ⊢
 by_cases hn : p.next = 0
 ·rw [if_pos hn] at h ⊢
  by_cases h1 : placeL p.held n < 0
  ·rw [if_pos h1] at h; exact absurd h (by decide)
  ·rw [if_neg h1] at h ⊢
   by_cases h2 : now ≤ (p.held.getD (placeL p.held n).toNat default).un
   ·rw [if_pos h2] at h; exact absurd h (by decide)
   ·rw [if_neg h2]
    exact ⟨hn, by omega, h2, rfl⟩
 ·rw [if_neg hn] at h; exact absurd h hn
theorem keep_free {p : Pu} {n : D8} {over : Int} (h : (p.free n over).1 = 0) : PKept p (p.free n over).2 := by
 obtain ⟨hn, h1, h2, h3⟩ := free_ok h
 rw [h3]
 exact keep_part hn (placeL_yes h1).1 h2
theorem keep_back {p : Pu} {n : D8} {now : Int} (h : (p.back n now).1 = 0) : PKept p (p.back n now).2 := by
 obtain ⟨hn, h1, h2, h3⟩ := back_ok h
 rw [h3]
 have hk := (placeL_yes h1).1
 obtain ⟨_, _, _, _, ⟨c5, _⟩, _⟩ := check_iff.1 (next_ok hn).1
 have := (c5 _ (mem_getD hk)).1
 exact keep_part hn hk ⟨Int.le_refl _, by omega⟩
theorem deed_kept {p : Pu} {d : Dd} (h : (p.deed d).1 = 0) : PKept p (p.deed d).2 := by
 unfold Pu.deed at h ⊢
 by_cases h0 : d.w % 4 = 0
 ·rw [if_pos h0] at h ⊢; exact keep_pay h
 ·rw [if_neg h0] at h ⊢
  by_cases h1 : d.w % 4 = 1
  ·rw [if_pos h1] at h ⊢; exact keep_hold h
  ·rw [if_neg h1] at h ⊢
   by_cases h2 : d.w % 4 = 2
   ·rw [if_pos h2] at h ⊢; exact keep_free h
   ·rw [if_neg h2] at h ⊢; exact keep_back h
theorem pay_no {p : Pu} {fr am : Int} (h : (p.pay fr am).1 ≠ 0) : (p.pay fr am).2 = pu0 := by
 unfold Pu.pay at h ⊢
 split
 ·rename_i hn
  rw [if_pos hn] at h
  split
  ·rfl
  ·rename_i h1
   rw [if_neg h1] at h
   split
   ·rename_i h2
    rw [if_pos h2] at h
    split
    ·rfl
    ·rename_i h3; rw [if_neg h3] at h; exact absurd rfl h
   ·rfl
 ·rfl
theorem hold_no {p : Pu} {d : Hd} (h : (p.hold d).1 ≠ 0) : (p.hold d).2 = pu0 := by
 unfold Pu.hold at h ⊢
 split
 ·rename_i hn
  rw [if_pos hn] at h
  split
  ·rfl
  ·rename_i h1
   rw [if_neg h1] at h
   split
   ·rename_i h2
    rw [if_pos h2] at h
    split
    ·rfl
    ·rename_i h3
     rw [if_neg h3] at h
     split
     ·rfl
     ·rename_i h4
      rw [if_neg h4] at h
      split
      ·rfl
      ·rename_i h5; rw [if_neg h5] at h; exact absurd rfl h
   ·rfl
 ·rfl
theorem free_no {p : Pu} {n : D8} {over : Int} (h : (p.free n over).1 ≠ 0) : (p.free n over).2 = pu0 := by
 unfold Pu.free at h ⊢
 split
 ·rename_i hn
  rw [if_pos hn] at h
  split
  ·rfl
  ·rename_i h1
   rw [if_neg h1] at h
   split
   ·rfl
   ·rename_i h2; rw [if_neg h2] at h; exact absurd rfl h
 ·rfl
theorem back_no {p : Pu} {n : D8} {now : Int} (h : (p.back n now).1 ≠ 0) : (p.back n now).2 = pu0 := by
 unfold Pu.back at h ⊢
 split
 ·rename_i hn
  rw [if_pos hn] at h
  split
  ·rfl
  ·rename_i h1
   rw [if_neg h1] at h
   split
   ·rfl
   ·rename_i h2; rw [if_neg h2] at h; exact absurd rfl h
 ·rfl
theorem deed_no {p : Pu} {d : Dd} (h : (p.deed d).1 ≠ 0) : (p.deed d).2 = pu0 := by
 unfold Pu.deed at h ⊢
 by_cases h0 : d.w % 4 = 0
 ·rw [if_pos h0] at h ⊢; exact pay_no h
 ·rw [if_neg h0] at h ⊢
  by_cases h1 : d.w % 4 = 1
  ·rw [if_pos h1] at h ⊢; exact hold_no h
  ·rw [if_neg h1] at h ⊢
   by_cases h2 : d.w % 4 = 2
   ·rw [if_pos h2] at h ⊢; exact free_no h
   ·rw [if_neg h2] at h ⊢; exact back_no h
theorem kept_total {p q : Pu} (h : PKept p q) : q.total = p.total := by
 unfold Pu.total; rw [if_pos h.was, if_pos h.fits, h.sum]
theorem same_refl (p : Pu) : p.same p = true := Pu.same_iff.2 rfl
theorem deed_len {p : Pu} {d : Dd} : (p.deed d).2.held.length ≤ 1000000 := by
 by_cases h : (p.deed d).1 = 0
 ·have := (check_iff.1 (deed_kept h).fits).2.2.2.1; omega
 ·rw [deed_no h]; decide
def Pu.upto (p : Pu) (k : Int) : Pu := { p with no := p.no + k }
theorem outL_last (l : List Hd) (h : Hd) : outL (l ++ [h]) l.length = l := by unfold outL; simp
theorem outL_snoc {l : List Hd} {k : Nat} (hk : k < l.length) (h : Hd) : outL (l ++ [h]) k = outL l k ++ [h] := by
 unfold outL
 rw [List.take_append_of_le_length (by omega), List.drop_append_of_le_length (by omega), List.append_assoc]
theorem getD_snoc {l : List Hd} {k : Nat} (hk : k < l.length) (h : Hd) : (l ++ [h]).getD k default = l.getD k default := by
 rw [List.getD_eq_getElem?_getD, List.getElem?_append_left hk, ← List.getD_eq_getElem?_getD]
theorem getD_last (l : List Hd) (h : Hd) : (l ++ [h]).getD l.length default = h := by
 rw [List.getD_eq_getElem?_getD, List.getElem?_append_right (Nat.le_refl _)]; simp
theorem placeL_one (h : Hd) (n : D8) : placeL [h] n = if h.nm = n then 0 else -1 := by
 rw [placeL_cons]; rfl
theorem hold_place {l : List Hd} {h : Hd} (hp : placeL l h.nm < 0) : placeL (l ++ [h]) h.nm = l.length := by
 rw [placeL_append, if_pos hp, placeL_one, if_pos rfl]; simp
theorem hold_place_other {l : List Hd} {h : Hd} {n : D8} (hn : h.nm ≠ n) : placeL (l ++ [h]) n = placeL l n := by
 rw [placeL_append, placeL_one, if_neg hn]
 have := placeL_lo l n
 by_cases h1 : placeL l n < 0
 ·rw [if_pos h1]; simp only [show ((-1 : Int) < 0) from by decide, if_true]; omega
 ·rw [if_neg h1]
theorem part_held {p q : Pu} {h : Hd} (hf : h.fr = 0 ∨ h.fr = 1) (hq : q = ({ p.add h.fr (-h.am) with held := p.held ++ [h] } : Pu).more) : (q.part p.held.length 0).more = p.upto 2 := by
 have hg : q.held.getD p.held.length default = h := by rw [hq]; exact getD_last _ _
 rw [part_eq (by rw [hg]; exact hf), hg]
 obtain ⟨nm, no, h0, h1, l⟩ := p
 rw [hq]
 rcases hf with hf | hf
 ·simp only [hf, Pu.add, if_true, Pu.more, Pu.upto, outL_last, Pu.mk.injEq, true_and, and_true]
  omega
 ·have e1 : ¬ ((1 : Int) = 0) := by decide
  simp only [hf, Pu.add, if_neg e1, Pu.more, Pu.upto, outL_last, Pu.mk.injEq, true_and, and_true]
  omega
end Go.Proofs.YthhiookcknnmdaaGreat
namespace Go.Proofs.YthhiookcknnmdaaGreat

theorem back_part {p q : Pu} {h : Hd} (hf : h.fr = 0 ∨ h.fr = 1) (hn : q.nm = p.nm) (h0 : q.h0 = p.h0 + if h.fr = 0 then -h.am else 0) (h1 : q.h1 = p.h1 + if h.fr = 0 then 0 else -h.am) (hl : q.held = p.held ++ [h]) :
  q.part p.held.length 0 = ⟨p.nm, q.no, p.h0, p.h1, p.held⟩ := by
 have hg : q.held.getD p.held.length default = h := by rw [hl]; exact getD_last _ _
 rw [part_eq (by rw [hg]; exact hf), hg, hl, outL_last, hn, h0, h1]
 simp only [Pu.mk.injEq, true_and, and_true]
 rcases hf with hf | hf
 ·simp only [hf, if_true]; omega
 ·have e1 : ¬ ((1 : Int) = 0) := by decide
  simp only [hf, if_neg e1]; omega
theorem more_eq (p : Pu) : p.more = ⟨p.nm, p.no + 1, p.h0, p.h1, p.held⟩ := rfl
theorem hold_parts {p : Pu} {h : Hd} (hf : h.fr = 0 ∨ h.fr = 1) : ({ p.add h.fr (-h.am) with held := p.held ++ [h] } : Pu).more = ⟨p.nm, p.no + 1, p.h0 + (if h.fr = 0 then -h.am else 0), p.h1 + (if h.fr = 0 then 0 else -h.am), p.held ++ [h]⟩ := by
 rcases hf with hf | hf
 ·simp only [hf, Pu.add, if_true, Pu.more, Int.add_zero]
 ·have e1 : ¬ ((1 : Int) = 0) := by decide
  simp only [hf, Pu.add, if_neg e1, Pu.more, Int.add_zero]
theorem hold_after {p : Pu} {h : Hd} (e : (p.hold h).1 = 0) (hno : (p.hold h).2.no ≤ 549755813888) :
  (p.hold h).2.next = 0 ∧ (p.hold h).2 = ⟨p.nm, p.no + 1, p.h0 + (if h.fr = 0 then -h.am else 0), p.h1 + (if h.fr = 0 then 0 else -h.am), p.held ++ [h]⟩ ∧ (h.fr = 0 ∨ h.fr = 1) := by
 obtain ⟨hn, hok, hpl, hl, ha, hq⟩ := hold_ok e
 have hf : h.fr = 0 ∨ h.fr = 1 := by have := hok.2.1; omega
 have hk := keep_hold e
 exact ⟨next_eq hk.fits (by omega), hq.trans (hold_parts hf), hf⟩
theorem free_held {p q : Pu} {h : Hd} (hq : q.next = 0) (hf : h.fr = 0 ∨ h.fr = 1) (ha : 0 ≤ h.am) (hn : q.nm = p.nm) (h0 : q.h0 = p.h0 + if h.fr = 0 then -h.am else 0) (h1 : q.h1 = p.h1 + if h.fr = 0 then 0 else -h.am) (hl : q.held = p.held ++ [h]) (hp : placeL p.held h.nm < 0) :
  q.free h.nm 0 = (0, ⟨p.nm, q.no + 1, p.h0, p.h1, p.held⟩) := by
 have hpl : placeL q.held h.nm = p.held.length := by rw [hl]; exact hold_place hp
 have hg : q.held.getD p.held.length default = h := by rw [hl]; exact getD_last _ _
 unfold Pu.free
 rw [if_pos hq, hpl, if_neg (by omega), Int.toNat_natCast, hg, if_neg (by omega), back_part hf hn h0 h1 hl, more_eq]
theorem back_held {p q : Pu} {h : Hd} (hq : q.next = 0) (hf : h.fr = 0 ∨ h.fr = 1) (hn : q.nm = p.nm) (h0 : q.h0 = p.h0 + if h.fr = 0 then -h.am else 0) (h1 : q.h1 = p.h1 + if h.fr = 0 then 0 else -h.am) (hl : q.held = p.held ++ [h]) (hp : placeL p.held h.nm < 0) :
  q.back h.nm (h.un + 1) = (0, ⟨p.nm, q.no + 1, p.h0, p.h1, p.held⟩) := by
 have hpl : placeL q.held h.nm = p.held.length := by rw [hl]; exact hold_place hp
 have hg : q.held.getD p.held.length default = h := by rw [hl]; exact getD_last _ _
 unfold Pu.back
 rw [if_pos hq, hpl, if_neg (by omega), Int.toNat_natCast, hg, if_neg (by omega), back_part hf hn h0 h1 hl, more_eq]
theorem part_both {p q : Pu} {h : Hd} {k : Nat} {over : Int} (hk : k < p.held.length) (hfk : (p.held.getD k default).fr = 0 ∨ (p.held.getD k default).fr = 1) (hq : q = ⟨p.nm, p.no + 1, p.h0 + (if h.fr = 0 then -h.am else 0), p.h1 + (if h.fr = 0 then 0 else -h.am), p.held ++ [h]⟩) :
  q.part k over = ⟨p.nm, p.no + 1, (p.part k over).h0 + (if h.fr = 0 then -h.am else 0), (p.part k over).h1 + (if h.fr = 0 then 0 else -h.am), outL p.held k ++ [h]⟩ ∧ (p.part k over).held = outL p.held k ∧ (p.part k over).nm = p.nm ∧ (p.part k over).no = p.no := by
 have hg : q.held.getD k default = p.held.getD k default := by rw [hq]; exact getD_snoc hk h
 have e := part_eq (p := p) (over := over) hfk
 refine ⟨?_, by rw [e], by rw [e], by rw [e]⟩
 rw [part_eq (by rw [hg]; exact hfk), hg, e, hq]
 simp only [outL_snoc hk, Pu.mk.injEq, true_and, and_true]
 omega
theorem place_outL {l : List Hd} {n : D8} {k : Nat} (h : placeL l n < 0) : placeL (outL l k) n < 0 :=
 placeL_no.2 fun x hx => placeL_no.1 h x (outL_mem hx)
theorem other_deed {p : Pu} {h : Hd} (e : (p.hold h).1 = 0) (hno : (p.hold h).2.no ≤ 549755813888) {o : Dd} (hw : o.w % 4 ≠ 0) (hw1 : o.w % 4 ≠ 1) (hnm : h.nm ≠ o.nm) :
  ((p.hold h).2.deed o).1 = (p.deed o).1 ∧ ((p.deed o).1 = 0 → ((p.hold h).2.deed o).2.free h.nm 0 = (0, ⟨(p.deed o).2.nm, (p.deed o).2.no + 2, (p.deed o).2.h0, (p.deed o).2.h1, (p.deed o).2.held⟩) ∧ (p.deed o).2.held.length ≤ 1000000) := by
 obtain ⟨hqn, hq, hf⟩ := hold_after e hno
 obtain ⟨hpn, hok, hpl, hlen, _, _⟩ := hold_ok e
 obtain ⟨hc, hno1⟩ := next_ok hpn
 obtain ⟨_, _, _, hl16, ⟨c5, _⟩, _⟩ := check_iff.1 hc
 have hkq := keep_hold e
 generalize (p.hold h).2 = q at *
 have hplo : placeL q.held o.nm = placeL p.held o.nm := by rw [hq]; exact hold_place_other hnm
 have hkk : ∀ k, k < p.held.length → q.held.getD k default = p.held.getD k default := fun k hk => by rw [hq]; exact getD_snoc hk h
 have fin : ∀ (k : Nat) (over : Int), k < p.held.length → PKept q (q.part k over).more → (q.part k over).more.free h.nm 0 = (0, ⟨(p.part k over).more.nm, (p.part k over).more.no + 2, (p.part k over).more.h0, (p.part k over).more.h1, (p.part k over).more.held⟩) ∧ (p.part k over).more.held.length ≤ 1000000 := by
  intro k over hk hkept
  have hfk : (p.held.getD k default).fr = 0 ∨ (p.held.getD k default).fr = 1 := by have := (c5 _ (mem_getD hk)).2.1; omega
  obtain ⟨e1, e2, e3, e4⟩ := part_both (over := over) hk hfk hq
  have hn : (q.part k over).more.next = 0 := by
   refine next_eq hkept.fits ?_
   have := hkept.no
   omega
  have hno3 : (q.part k over).more.no = p.no + 2 := by rw [hkept.no, hq]; show p.no + 1 + 1 = _; omega
  refine ⟨?_, by show (p.part k over).held.length ≤ _; rw [e2, outL_len hk]; omega⟩
  have := free_held (p := (p.part k over).more) (q := (q.part k over).more) (h := h) hn hf (by have := hok.1; omega) (by rw [e1]; exact e3.symm) (by rw [e1]; rfl) (by rw [e1]; rfl) (by rw [e1]; show _ = (p.part k over).held ++ [h]; rw [e2]; rfl) (by show placeL (p.part k over).held _ < 0; rw [e2]; exact place_outL hpl)
  rw [this, hno3]
  show (0, _) = (0, _)
  simp only [Prod.mk.injEq, Pu.mk.injEq, true_and, and_true]
  show p.no + 2 + 1 = (p.part k over).no + 1 + 2
  rw [e4]; omega
 unfold Pu.deed
 rw [if_neg hw, if_neg hw1]
 by_cases h2 : o.w % 4 = 2
 ·simp only [if_neg hw, if_neg hw1, if_pos h2]
  unfold Pu.free
  rw [if_pos hqn, if_pos hpn, hplo]
  by_cases h3 : placeL p.held o.nm < 0
  ·simp only [if_pos h3]; exact ⟨trivial, fun h => absurd h (by decide)⟩
  ·have hk := (placeL_yes (l := p.held) (n := o.nm) (by omega)).1
   simp only [if_neg h3, hkk _ hk]
   by_cases h4 : o.am < 0 ∨ (p.held.getD (placeL p.held o.nm).toNat default).am < o.am
   ·simp only [if_pos h4]; exact ⟨trivial, fun h => absurd h (by decide)⟩
   ·simp only [if_neg h4]
    refine ⟨trivial, fun _ => ?_⟩
    have hh := fin _ o.am hk (keep_part hqn (by rw [hq]; simp; omega) (by rw [hkk _ hk]; omega))
    have h5 := hh.1
    unfold Pu.free at h5
    exact ⟨h5, hh.2⟩
 ·simp only [if_neg hw, if_neg hw1, if_neg h2]
  unfold Pu.back
  rw [if_pos hqn, if_pos hpn, hplo]
  by_cases h3 : placeL p.held o.nm < 0
  ·simp only [if_pos h3]; exact ⟨trivial, fun h => absurd h (by decide)⟩
  ·have hk := (placeL_yes (l := p.held) (n := o.nm) (by omega)).1
   simp only [if_neg h3, hkk _ hk]
   by_cases h4 : o.un ≤ (p.held.getD (placeL p.held o.nm).toNat default).un
   ·simp only [if_pos h4]; exact ⟨trivial, fun h => absurd h (by decide)⟩
   ·simp only [if_neg h4]
    refine ⟨trivial, fun _ => ?_⟩
    have ham := (c5 _ (mem_getD hk)).1
    exact fin _ 0 hk (keep_part hqn (by rw [hq]; simp; omega) (by rw [hkk _ hk]; omega))
theorem given_back {p : Pu} {h : Hd} (e : (p.hold h).1 = 0) (hno : (p.hold h).2.no ≤ 549755813888) :
  (p.hold h).2.free h.nm 0 = (0, p.upto 2) ∧ (p.hold h).2.back h.nm (h.un + 1) = (0, p.upto 2) := by
 obtain ⟨hqn, hq, hf⟩ := hold_after e hno
 obtain ⟨_, hok, hpl, _, _, _⟩ := hold_ok e
 generalize (p.hold h).2 = q at *
 have e1 : q.no + 1 = p.no + 2 := by rw [hq]; show p.no + 1 + 1 = _; omega
 refine ⟨?_, ?_⟩
 ·rw [free_held hqn hf (by have := hok.1; omega) (by rw [hq]) (by rw [hq]) (by rw [hq]) (by rw [hq]) hpl, e1]; rfl
 ·rw [back_held hqn hf (by rw [hq]) (by rw [hq]) (by rw [hq]) (by rw [hq]) hpl, e1]; rfl
end Go.Proofs.YthhiookcknnmdaaGreat
