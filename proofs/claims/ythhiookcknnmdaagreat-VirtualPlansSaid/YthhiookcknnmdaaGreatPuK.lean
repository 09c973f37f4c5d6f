/- Purses, plain: when one may be; what each deed keeps. Nothing of the program stands in it, so there is no condition. -/
import Derived.Test.YthhiookcknnmdaaGreatPuA
namespace Go.Proofs.YthhiookcknnmdaaGreat

theorem eqI_iff8 {a b : D8} : eqI a.L b.L = true ↔ a = b := eqN_iff
instance : DecidableEq D8 := fun a b => if h : eqI a.L b.L = true then .isTrue (eqI_iff8.1 h) else .isFalse fun e => h (eqI_iff8.2 e)
theorem mem_getD {l : List Hd} {k : Nat} (h : k < l.length) : l.getD k default ∈ l := by
 rw [List.getD_eq_getElem?_getD, List.getElem?_eq_getElem h]; exact List.getElem_mem h
theorem getD_mem {l : List Hd} {x : Hd} (h : x ∈ l) : ∃ k, k < l.length ∧ l.getD k default = x := by
 obtain ⟨k, hk, e⟩ := List.getElem_of_mem h
 exact ⟨k, hk, by rw [List.getD_eq_getElem?_getD, List.getElem?_eq_getElem hk, e]; rfl⟩
theorem twice_iff {l : List Hd} {k : Nat} : twiceB l k = false ↔ ∀ j, j < k → (l.getD j default).nm ≠ (l.getD k default).nm := by
 unfold twiceB
 rw [List.any_eq_false]
 constructor
 ·intro h j hj e
  exact h j (by simpa using hj) (eqI_iff8.2 e)
 ·intro h j hj e
  exact h j (by simpa using hj) (eqI_iff8.1 e)
theorem nodup_iff {l : List Hd} : (l.map (·.nm)).Nodup ↔ ∀ k, k < l.length → twiceB l k = false := by
 rw [List.nodup_iff_pairwise_ne, List.pairwise_iff_getElem]
 constructor
 ·intro h k hk
  rw [twice_iff]
  intro j hj
  have := h j k (by simp; omega) (by simpa using hk) hj
  simpa [List.getD_eq_getElem?_getD, List.getElem?_eq_getElem hk, List.getElem?_eq_getElem (show j < l.length by omega)] using this
 ·intro h i j hi hj hij
  have := twice_iff.1 (h j (by simpa using hj)) i hij
  simpa [List.getD_eq_getElem?_getD, List.getElem?_eq_getElem (show j < l.length by simpa using hj), List.getElem?_eq_getElem (show i < l.length by simpa using hi)] using this
theorem checkL_iff {l : List Hd} : checkL l = 0 ↔ (∀ h ∈ l, h.ok) ∧ (l.map (·.nm)).Nodup := by
 constructor
 ·intro h
  refine ⟨fun x hx => ?_, nodup_iff.2 fun k hk => (codeAt_ok.1 (checkL_all h k hk)).2⟩
  obtain ⟨k, hk, rfl⟩ := getD_mem hx
  exact (codeAt_ok.1 (checkL_all h k hk)).1
 ·rintro ⟨h1, h2⟩
  exact checkL_good fun j hj => codeAt_ok.2 ⟨h1 _ (mem_getD hj), nodup_iff.1 h2 j hj⟩
theorem check_iff {p : Pu} : p.check = 0 ↔ (0 ≤ p.no ∧ p.no ≤ 1099511627776) ∧ (0 ≤ p.h0 ∧ p.h0 ≤ 1125899906842624) ∧ (0 ≤ p.h1 ∧ p.h1 ≤ 1125899906842624) ∧ p.held.length ≤ 16 ∧ ((∀ h ∈ p.held, h.ok) ∧ (p.held.map (·.nm)).Nodup) ∧ (0 ≤ p.sum ∧ p.sum ≤ 1125899906842624) := by
 rw [← checkL_iff, ← far_iff, ← rgt_iff, ← rgt_iff, ← rgt_iff]
 unfold Pu.check
 by_cases h1 : (far p.no && rgt p.h0 && rgt p.h1) = true
 ·rw [if_pos h1]
  simp only [Bool.and_eq_true] at h1
  by_cases h2 : 16 < p.held.length
  ·rw [if_pos h2]
   constructor
   ·intro h; exact absurd h (by decide)
   ·rintro ⟨_, _, _, h, _⟩; omega
  ·rw [if_neg h2]
   by_cases h3 : checkL p.held = 0
   ·rw [if_pos h3]
    by_cases h4 : rgt p.sum = true
    ·rw [if_pos h4]; exact ⟨fun _ => ⟨h1.1.1, h1.1.2, h1.2, by omega, h3, h4⟩, fun _ => rfl⟩
    ·rw [if_neg h4]
     constructor
     ·intro h; exact absurd h (by decide)
     ·rintro ⟨_, _, _, _, _, h⟩; exact absurd h h4
   ·rw [if_neg h3]
    constructor
    ·intro h; exact absurd h h3
    ·rintro ⟨_, _, _, _, h, _⟩; exact absurd h h3
 ·rw [if_neg h1]
  constructor
  ·intro h; exact absurd h (by decide)
  ·rintro ⟨a, b, c, _⟩; exact absurd (by simp [a, b, c]) h1

theorem sumL_nonneg {l : List Hd} (h : ∀ x ∈ l, x.ok) : 0 ≤ sumL l := by
 induction l with
 | nil => simp [sumL]
 | cons x l ih =>
  have h1 := ih fun y hy => h y (List.mem_cons_of_mem _ hy)
  have h2 := (h x (List.mem_cons_self)).1
  have : sumL (x :: l) = x.am + sumL l := by simp [sumL]
  omega
theorem paysK_sum (now : Int) (l : List Hd) (a : Int × Int × Int) : (paysK now l a).1 + (paysK now l a).2.1 + (paysK now l a).2.2 = a.1 + a.2.1 + a.2.2 + sumL l := by
 induction l generalizing a with
 | nil => simp [paysK, sumL]
 | cons x l ih =>
  have : sumL (x :: l) = x.am + sumL l := by simp [sumL]
  rw [this]
  simp only [paysK]
  rw [ih]
  split
  ·split <;> simp only <;> omega
  ·simp only; omega
theorem paysK_all {now : Int} {l : List Hd} (h : ∀ x ∈ l, x.un < now) (a : Int × Int × Int) : (paysK now l a).2.2 = a.2.2 := by
 induction l generalizing a with
 | nil => rfl
 | cons x l ih =>
  simp only [paysK]
  rw [ih fun y hy => h y (List.mem_cons_of_mem _ hy), if_pos (h x (List.mem_cons_self))]
  split <;> rfl
theorem paysK_mono {now later : Int} {l : List Hd} (hn : now ≤ later) (hok : ∀ x ∈ l, x.ok) (a b : Int × Int × Int) (h : a.1 ≤ b.1 ∧ a.2.1 ≤ b.2.1 ∧ b.2.2 ≤ a.2.2) :
  (paysK now l a).1 ≤ (paysK later l b).1 ∧ (paysK now l a).2.1 ≤ (paysK later l b).2.1 ∧ (paysK later l b).2.2 ≤ (paysK now l a).2.2 := by
 induction l generalizing a b with
 | nil => exact h
 | cons x l ih =>
  simp only [paysK]
  refine ih (fun y hy => hok y (List.mem_cons_of_mem _ hy)) _ _ ?_
  have h2 := (hok x (List.mem_cons_self)).1
  by_cases h3 : x.un < now
  ·rw [if_pos h3, if_pos (show x.un < later by omega)]
   by_cases h4 : x.fr = 0
   ·simp only [h4, if_true]; omega
   ·simp only [h4, if_false]; omega
  ·rw [if_neg h3]
   split
   ·split <;> simp only <;> omega
   ·simp only; omega
theorem pays_law (p : Pu) (now later : Int) (hn : now ≤ later) :
  (p.pays now).1 + (p.pays now).2.1 + (p.pays now).2.2 = p.total ∧ (p.pays later).1 + (p.pays later).2.1 + (p.pays later).2.2 = p.total ∧ (p.pays 2199023255552).1 + (p.pays 2199023255552).2.1 = p.total ∧ (p.pays 2199023255552).2.2 = 0 ∧
  (p.pays now).1 ≤ (p.pays later).1 ∧ (p.pays now).2.1 ≤ (p.pays later).2.1 ∧ (p.pays later).2.2 ≤ (p.pays now).2.2 := by
 unfold Pu.pays Pu.total
 by_cases h : p.check = 0
 ·simp only [if_pos h]
  obtain ⟨_, _, _, _, ⟨hok, _⟩, _⟩ := check_iff.1 h
  have e := fun x => paysK_sum x p.held (p.h0, p.h1, 0)
  have e1 := e now
  have e2 := e later
  have e3 := e 2199023255552
  have e4 := paysK_all (now := 2199023255552) (fun x hx => by have := (hok x hx).2.2; omega) (p.h0, p.h1, 0)
  have e5 := paysK_mono hn hok (p.h0, p.h1, 0) (p.h0, p.h1, 0) ⟨Int.le_refl _, Int.le_refl _, Int.le_refl _⟩
  unfold Pu.sum
  simp only at e1 e2 e3 e4
  exact ⟨by omega, by omega, by omega, e4, e5.1, e5.2.1, e5.2.2⟩
 ·simp only [if_neg h]
  simp

structure Dd where
 w : Nat
 nm : D8
 am : Int
 fr : Int
 un : Int
def Pu.deed (p : Pu) (d : Dd) : Int × Pu :=
 if d.w % 4 = 0 then p.pay d.fr d.am else if d.w % 4 = 1 then p.hold ⟨d.nm, d.am, d.fr, d.un⟩ else if d.w % 4 = 2 then p.free d.nm d.am else p.back d.nm d.un
theorem placeL_cons (h : Hd) (l : List Hd) (n : D8) : placeL (h :: l) n = if h.nm = n then 0 else (if placeL l n < 0 then -1 else placeL l n + 1) := by
 unfold placeL
 rw [List.findIdx?_cons]
 by_cases e : h.nm = n
 ·rw [if_pos e, if_pos (eqI_iff8.2 e)]; rfl
 ·rw [if_neg e, if_neg (fun x => e (eqI_iff8.1 x))]
  cases hf : List.findIdx? (fun h => eqI h.nm.L n.L) l with
  | none => simp
  | some k => simp; omega
theorem placeL_lo (l : List Hd) (n : D8) : -1 ≤ placeL l n := by
 unfold placeL; split <;> omega
theorem placeL_no {l : List Hd} {n : D8} : placeL l n < 0 ↔ ∀ x ∈ l, x.nm ≠ n := by
 induction l with
 | nil => simp [placeL]
 | cons x l ih =>
  rw [placeL_cons]
  have hl := placeL_lo l n
  by_cases e : x.nm = n
  ·rw [if_pos e]
   constructor
   ·intro h; omega
   ·intro h; exact absurd e (h x (List.mem_cons_self))
  ·rw [if_neg e]
   constructor
   ·intro h y hy
    split at h
    ·rename_i h2
     rcases List.mem_cons.1 hy with rfl | hy
     ·exact e
     ·exact ih.1 h2 y hy
    ·omega
   ·intro h
    rw [if_pos (ih.2 fun y hy => h y (List.mem_cons_of_mem _ hy))]; decide
theorem placeL_yes {l : List Hd} {n : D8} (h : 0 ≤ placeL l n) : (placeL l n).toNat < l.length ∧ (l.getD (placeL l n).toNat default).nm = n ∧ ∀ j, j < (placeL l n).toNat → (l.getD j default).nm ≠ n := by
 induction l with
 | nil => simp [placeL] at h
 | cons x l ih =>
  rw [placeL_cons] at h ⊢
  by_cases e : x.nm = n
  ·rw [if_pos e]
   exact ⟨by simp, by simpa using e, fun j hj => absurd hj (by simp)⟩
  ·rw [if_neg e] at h ⊢
   by_cases h2 : placeL l n < 0
   ·rw [if_pos h2] at h; omega
   ·rw [if_neg h2] at h ⊢
    obtain ⟨i1, i2, i3⟩ := ih (by omega)
    have e3 : (placeL l n + 1).toNat = (placeL l n).toNat + 1 := by omega
    rw [e3]
    refine ⟨by simpa using i1, by simpa using i2, fun j hj => ?_⟩
    cases j with
    | zero => simpa using e
    | succ j => simpa using i3 j (by omega)
theorem placeL_at {l : List Hd} {n : D8} {k : Nat} (hk : k < l.length) (h : (l.getD k default).nm = n) (h2 : ∀ j, j < k → (l.getD j default).nm ≠ n) : placeL l n = k := by
 induction l generalizing k with
 | nil => simp at hk
 | cons x l ih =>
  rw [placeL_cons]
  cases k with
  | zero => rw [if_pos (by simpa using h)]; rfl
  | succ k =>
   rw [if_neg (by simpa using h2 0 (by omega)), ih (k := k) (by simpa using hk) (by simpa using h) (fun j hj => by simpa using h2 (j + 1) (by omega)), if_neg (by omega)]
   simp
theorem placeL_append (l m : List Hd) (n : D8) : placeL (l ++ m) n = if placeL l n < 0 then (if placeL m n < 0 then -1 else l.length + placeL m n) else placeL l n := by
 induction l with
 | nil =>
  have := placeL_lo m n
  have e : placeL [] n = -1 := rfl
  rw [e, if_pos (by decide)]
  simp only [List.nil_append, List.length_nil]
  split <;> omega
 | cons x l ih =>
  rw [List.cons_append, placeL_cons, placeL_cons, ih]
  have hl := placeL_lo l n
  have hm := placeL_lo m n
  by_cases e : x.nm = n
  ·simp [e]
  ·simp only [if_neg e]
   by_cases h1 : placeL l n < 0
   ·simp only [if_pos h1]
    by_cases h2 : placeL m n < 0
    ·simp [if_pos h2]
    ·simp only [if_neg h2, List.length_cons]
     rw [if_neg (by omega), if_pos (by decide)]
     omega
   ·simp only [if_neg h1]
    rw [if_neg (by omega)]
theorem next_ok {p : Pu} (h : p.next = 0) : p.check = 0 ∧ p.no ≠ 1099511627776 := by
 unfold Pu.next at h
 split at h
 ·rename_i h1
  split at h
  ·exact absurd h (by decide)
  ·rename_i h2; exact ⟨h1, h2⟩
 ·exact absurd h (by decide)
theorem next_eq {p : Pu} (h : p.check = 0) (h2 : p.no ≠ 1099511627776) : p.next = 0 := by unfold Pu.next; rw [if_pos h, if_neg h2]
def outL (l : List Hd) (k : Nat) : List Hd := l.take k ++ l.drop (k + 1)
theorem outL_sum {l : List Hd} {k : Nat} (h : k < l.length) : sumL (outL l k) = sumL l - (l.getD k default).am := by
 have e : l = l.take k ++ (l.getD k default :: l.drop (k + 1)) := by
  rw [List.getD_eq_getElem?_getD, List.getElem?_eq_getElem h]
  simp only [Option.getD_some]
  rw [← List.drop_eq_getElem_cons h, List.take_append_drop]
 have e2 : sumL l = sumL (l.take k) + ((l.getD k default).am + sumL (l.drop (k + 1))) := by
  conv => lhs; rw [e]
  rw [sumL_append]
  simp [sumL]
 rw [outL, sumL_append, e2]; omega
theorem outL_mem {l : List Hd} {k : Nat} {x : Hd} (h : x ∈ outL l k) : x ∈ l := by
 unfold outL at h
 rcases List.mem_append.1 h with h | h
 ·exact List.mem_of_mem_take h
 ·exact List.mem_of_mem_drop h
theorem outL_sub (l : List Hd) (k : Nat) : (outL l k).Sublist l := by
 unfold outL
 rw [← List.eraseIdx_eq_take_drop_succ]
 exact List.eraseIdx_sublist _ _
theorem outL_len {l : List Hd} {k : Nat} (h : k < l.length) : (outL l k).length = l.length - 1 := by
 unfold outL; rw [List.length_append, List.length_take, List.length_drop]; omega
theorem outL_nodup {l : List Hd} {k : Nat} (h : (l.map (·.nm)).Nodup) : ((outL l k).map (·.nm)).Nodup := h.sublist ((outL_sub l k).map _)
structure PKept (p q : Pu) : Prop where
 was : p.check = 0
 fits : q.check = 0
 sum : q.sum = p.sum
 no : q.no = p.no + 1
 nm : q.nm = p.nm
theorem keep_pay {p : Pu} {fr am : Int} (h : (p.pay fr am).1 = 0) : PKept p (p.pay fr am).2 := by
 unfold Pu.pay at h ⊢
 by_cases hn : p.next = 0
 ·rw [if_pos hn] at h ⊢
  obtain ⟨hc, hno⟩ := next_ok hn
  obtain ⟨c1, c2, c3, c4, ⟨c5, c6⟩, c7⟩ := check_iff.1 hc
  by_cases h1 : fr < 0 ∨ 1 < fr
  ·rw [if_pos h1] at h; exact absurd h (by decide)
  ·rw [if_neg h1] at h ⊢
   by_cases h2 : posB am = true
   ·rw [if_pos h2] at h ⊢
    by_cases h3 : p.have_ fr < am
    ·rw [if_pos h3] at h; exact absurd h (by decide)
    ·rw [if_neg h3] at h ⊢
     have h2' := posB_iff.1 h2
     have hs := sumL_nonneg c5
     have hsum : p.sum = p.h0 + p.h1 + sumL p.held := rfl
     have hfr : fr = 0 ∨ fr = 1 := by omega
     rcases hfr with rfl | rfl
     ·have h3' : ¬ p.h0 < am := h3
      refine ⟨hc, check_iff.2 ⟨?_, ?_, ?_, c4, ⟨c5, c6⟩, ?_⟩, ?_, rfl, rfl⟩
      ·show 0 ≤ p.no + 1 ∧ p.no + 1 ≤ _; omega
      ·show 0 ≤ p.h0 + -am ∧ p.h0 + -am ≤ _; omega
      ·show 0 ≤ p.h1 + am ∧ p.h1 + am ≤ _; omega
      ·show 0 ≤ p.h0 + -am + (p.h1 + am) + sumL p.held ∧ p.h0 + -am + (p.h1 + am) + sumL p.held ≤ _; omega
      ·show p.h0 + -am + (p.h1 + am) + sumL p.held = _; omega
     ·have h3' : ¬ p.h1 < am := h3
      refine ⟨hc, check_iff.2 ⟨?_, ?_, ?_, c4, ⟨c5, c6⟩, ?_⟩, ?_, rfl, rfl⟩
      ·show 0 ≤ p.no + 1 ∧ p.no + 1 ≤ _; omega
      ·show 0 ≤ p.h0 + am ∧ p.h0 + am ≤ _; omega
      ·show 0 ≤ p.h1 + -am ∧ p.h1 + -am ≤ _; omega
      ·show 0 ≤ p.h0 + am + (p.h1 + -am) + sumL p.held ∧ p.h0 + am + (p.h1 + -am) + sumL p.held ≤ _; omega
      ·show p.h0 + am + (p.h1 + -am) + sumL p.held = _; omega
   ·rw [if_neg h2] at h; exact absurd h (by decide)
 ·rw [if_neg hn] at h; exact absurd h hn
theorem hold_ok {p : Pu} {h : Hd} (e : (p.hold h).1 = 0) : p.next = 0 ∧ h.ok ∧ placeL p.held h.nm < 0 ∧ p.held.length < 16 ∧ h.am ≤ p.have_ h.fr ∧ (p.hold h).2 = ({ p.add h.fr (-h.am) with held := p.held ++ [h] } : Pu).more := by
 unfold Pu.hold at e ⊢
 by_cases hn : p.next = 0
 ·rw [if_pos hn] at e ⊢
  by_cases h1 : h.fr < 0 ∨ 1 < h.fr
  ·rw [if_pos h1] at e; exact absurd e (by decide)
  ·rw [if_neg h1] at e ⊢
   by_cases h2 : (posB h.am && far h.un) = true
   ·rw [if_pos h2] at e ⊢
    by_cases h3 : 0 ≤ placeL p.held h.nm
    ·rw [if_pos h3] at e; exact absurd e (by decide)
    ·rw [if_neg h3] at e ⊢
     by_cases h4 : 16 ≤ p.held.length
     ·rw [if_pos h4] at e; exact absurd e (by decide)
     ·rw [if_neg h4] at e ⊢
      by_cases h5 : p.have_ h.fr < h.am
      ·rw [if_pos h5] at e; exact absurd e (by decide)
      ·rw [if_neg h5]
       simp only [Bool.and_eq_true, posB_iff, far_iff] at h2
       exact ⟨hn, ⟨h2.1, by omega, h2.2⟩, by omega, by omega, by omega, rfl⟩
   ·rw [if_neg h2] at e; exact absurd e (by decide)
 ·rw [if_neg hn] at e; exact absurd e hn
theorem keep_hold {p : Pu} {h : Hd} (e : (p.hold h).1 = 0) : PKept p (p.hold h).2 := by
 obtain ⟨hn, hok, hpl, hl, ha, hq⟩ := hold_ok e
 rw [hq]
 obtain ⟨hc, hno⟩ := next_ok hn
 obtain ⟨c1, c2, c3, c4, ⟨c5, c6⟩, c7⟩ := check_iff.1 hc
 have hs := sumL_nonneg c5
 have hsum : p.sum = p.h0 + p.h1 + sumL p.held := rfl
 have hall : ∀ x ∈ p.held ++ [h], x.ok := fun x hx => by
  rcases List.mem_append.1 hx with hx | hx
  ·exact c5 x hx
  ·obtain rfl := List.mem_singleton.1 hx; exact hok
 have hnd : ((p.held ++ [h]).map (·.nm)).Nodup := by
  rw [List.map_append, List.nodup_append]
  refine ⟨c6, by simp, ?_⟩
  intro a ha b hb
  obtain ⟨x, hx, rfl⟩ := List.mem_map.1 ha
  simp at hb
  rw [hb]
  exact placeL_no.1 hpl x hx
 have hlen : (p.held ++ [h]).length ≤ 16 := by rw [List.length_append]; simp; omega
 have hsl : sumL (p.held ++ [h]) = sumL p.held + h.am := by rw [sumL_append, sumL_one]
 obtain ⟨o1, o2, o3⟩ := hok
 have hfr : h.fr = 0 ∨ h.fr = 1 := by omega
 rcases hfr with hf | hf
 ·rw [hf] at ha ⊢
  have ha' : h.am ≤ p.h0 := ha
  refine ⟨hc, check_iff.2 ⟨?_, ?_, c3, hlen, ⟨hall, hnd⟩, ?_⟩, ?_, rfl, rfl⟩
  ·show 0 ≤ p.no + 1 ∧ p.no + 1 ≤ _; omega
  ·show 0 ≤ p.h0 + -h.am ∧ p.h0 + -h.am ≤ _; omega
  ·show 0 ≤ p.h0 + -h.am + p.h1 + sumL (p.held ++ [h]) ∧ p.h0 + -h.am + p.h1 + sumL (p.held ++ [h]) ≤ _; omega
  ·show p.h0 + -h.am + p.h1 + sumL (p.held ++ [h]) = _; omega
 ·rw [hf] at ha ⊢
  have ha' : h.am ≤ p.h1 := ha
  refine ⟨hc, check_iff.2 ⟨?_, c2, ?_, hlen, ⟨hall, hnd⟩, ?_⟩, ?_, rfl, rfl⟩
  ·show 0 ≤ p.no + 1 ∧ p.no + 1 ≤ _; omega
  ·show 0 ≤ p.h1 + -h.am ∧ p.h1 + -h.am ≤ _; omega
  ·show 0 ≤ p.h0 + (p.h1 + -h.am) + sumL (p.held ++ [h]) ∧ p.h0 + (p.h1 + -h.am) + sumL (p.held ++ [h]) ≤ _; omega
  ·show p.h0 + (p.h1 + -h.am) + sumL (p.held ++ [h]) = _; omega
theorem part_eq {p : Pu} {k : Nat} {over : Int} (hf : (p.held.getD k default).fr = 0 ∨ (p.held.getD k default).fr = 1) :
  p.part k over = ⟨p.nm, p.no, p.h0 + (if (p.held.getD k default).fr = 0 then (p.held.getD k default).am - over else over), p.h1 + (if (p.held.getD k default).fr = 0 then over else (p.held.getD k default).am - over), outL p.held k⟩ := by
 unfold Pu.part outL
 rcases hf with hf | hf <;> rw [hf] <;> rfl
theorem keep_part {p : Pu} {k : Nat} {over : Int} (hn : p.next = 0) (hk : k < p.held.length) (ho : 0 ≤ over ∧ over ≤ (p.held.getD k default).am) : PKept p (p.part k over).more := by
 obtain ⟨hc, hno⟩ := next_ok hn
 obtain ⟨c1, c2, c3, c4, ⟨c5, c6⟩, c7⟩ := check_iff.1 hc
 have hsum : p.sum = p.h0 + p.h1 + sumL p.held := rfl
 have ho2 := outL_sum hk
 have hall : ∀ x ∈ outL p.held k, x.ok := fun x hx => c5 x (outL_mem hx)
 have hs := sumL_nonneg hall
 obtain ⟨o1, o2, o3⟩ := c5 _ (mem_getD hk)
 have hfr : (p.held.getD k default).fr = 0 ∨ (p.held.getD k default).fr = 1 := by omega
 rw [part_eq hfr]
 have hlen := outL_len hk
 rcases hfr with hf | hf
 ·refine ⟨hc, check_iff.2 ⟨?_, ?_, ?_, ?_, ⟨hall, outL_nodup c6⟩, ?_⟩, ?_, rfl, rfl⟩
  all_goals simp only [Pu.more, Pu.sum, hf, if_true]
  all_goals omega
 ·have e1 : ¬ ((1 : Int) = 0) := by decide
  refine ⟨hc, check_iff.2 ⟨?_, ?_, ?_, ?_, ⟨hall, outL_nodup c6⟩, ?_⟩, ?_, rfl, rfl⟩
  all_goals simp only [Pu.more, Pu.sum, hf, if_neg e1]
  all_goals omega
end Go.Proofs.YthhiookcknnmdaaGreat
