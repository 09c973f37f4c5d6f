/- Purses, plain: what may be, what each deed gives. Nothing of the program stands in it, so there is no condition. -/
import Derived.WalkKit
import Derived.Test.YthhiookcknnmdaaGreatJoinX
namespace Go.Proofs.YthhiookcknnmdaaGreat

structure Hd where
 nm : D8
 am : Int
 fr : Int
 un : Int
structure Pu where
 nm : D8
 no : Int
 h0 : Int
 h1 : Int
 held : List Hd
def nm0 : D8 := ⟨0, 0, 0, 0, 0, 0, 0, 0⟩
def hd0 : Hd := ⟨nm0, 0, 0, 0⟩
def pu0 : Pu := ⟨nm0, 0, 0, 0, []⟩
instance : Inhabited Hd := ⟨hd0⟩
def far (n : Int) : Bool := decide (0 ≤ n) && decide (n ≤ 1099511627776)
def rgt (n : Int) : Bool := decide (0 ≤ n) && decide (n ≤ 1125899906842624)
def posB (n : Int) : Bool := decide (0 < n) && rgt n
theorem far_iff {n : Int} : far n = true ↔ 0 ≤ n ∧ n ≤ 1099511627776 := by simp [far]
theorem rgt_iff {n : Int} : rgt n = true ↔ 0 ≤ n ∧ n ≤ 1125899906842624 := by simp [rgt]
theorem posB_iff {n : Int} : posB n = true ↔ 0 < n ∧ n ≤ 1125899906842624 := by simp [posB, rgt]; omega
theorem far_no {n : Int} : far n = false ↔ ¬ (0 ≤ n ∧ n ≤ 1099511627776) := by rw [← far_iff]; simp
theorem rgt_no {n : Int} : rgt n = false ↔ ¬ (0 ≤ n ∧ n ≤ 1125899906842624) := by rw [← rgt_iff]; simp
theorem posB_no {n : Int} : posB n = false ↔ ¬ (0 < n ∧ n ≤ 1125899906842624) := by rw [← posB_iff]; simp

def Hd.ok (h : Hd) : Prop := (0 < h.am ∧ h.am ≤ 1125899906842624) ∧ (0 ≤ h.fr ∧ h.fr ≤ 1) ∧ (0 ≤ h.un ∧ h.un ≤ 1099511627776)
instance (h : Hd) : Decidable h.ok := by unfold Hd.ok; infer_instance
def twiceB (l : List Hd) (k : Nat) : Bool := (List.range k).any fun j => eqI (l.getD j default).nm.L (l.getD k default).nm.L
def codeAt (l : List Hd) (k : Nat) : Int := if (l.getD k default).ok then (if twiceB l k then 7 else 0) else 2
def checkL (l : List Hd) : Int := match (List.range l.length).find? (fun k => codeAt l k != 0) with | some k => codeAt l k | none => 0
theorem checkL_bad {l : List Hd} {k : Nat} (hk : k < l.length) (h0 : ∀ j, j < k → codeAt l j = 0) (h : codeAt l k ≠ 0) : checkL l = codeAt l k := by
 unfold checkL
 have : (List.range l.length).find? (fun k => codeAt l k != 0) = some k := by
  rw [List.find?_range_eq_some]
  refine ⟨by simpa using h, by simpa using hk, fun j hj => by simp [h0 j hj]⟩
 rw [this]
theorem checkL_good {l : List Hd} (h0 : ∀ j, j < l.length → codeAt l j = 0) : checkL l = 0 := by
 unfold checkL
 have : (List.range l.length).find? (fun k => codeAt l k != 0) = none := by
  rw [List.find?_eq_none]
  intro x hx
  simp at hx
  simp [h0 x hx]
 rw [this]
theorem checkL_all {l : List Hd} (h : checkL l = 0) (j : Nat) (hj : j < l.length) : codeAt l j = 0 := by
 unfold checkL at h
 split at h
 ·rename_i k hk
  have := List.find?_some hk
  simp [h] at this
 ·rename_i hn
  rw [List.find?_eq_none] at hn
  have := hn j (by simpa using hj)
  simpa using this
theorem codeAt_ok {l : List Hd} {k : Nat} : codeAt l k = 0 ↔ (l.getD k default).ok ∧ twiceB l k = false := by
 unfold codeAt
 by_cases h : (l.getD k default).ok <;> by_cases h2 : twiceB l k = true <;> simp_all
def sumL (l : List Hd) : Int := (l.map (·.am)).sum
def Pu.sum (p : Pu) : Int := p.h0 + p.h1 + sumL p.held
theorem sumL_append (a b : List Hd) : sumL (a ++ b) = sumL a + sumL b := by simp [sumL]
theorem sumL_one (h : Hd) : sumL [h] = h.am := by simp [sumL]
def Pu.check (p : Pu) : Int :=
 if far p.no && rgt p.h0 && rgt p.h1 then
  if 16 < p.held.length then 8
  else if checkL p.held = 0 then (if rgt p.sum then 0 else 2) else checkL p.held
 else 2
def Pu.total (p : Pu) : Int := if p.check = 0 then p.sum else 0
def placeL (l : List Hd) (n : D8) : Int := match l.findIdx? (fun h => eqI h.nm.L n.L) with | some k => (k : Int) | none => -1
def Pu.next (p : Pu) : Int := if p.check = 0 then (if p.no = 1099511627776 then 17 else 0) else 3
def Pu.have_ (p : Pu) (i : Int) : Int := if i = 0 then p.h0 else p.h1
def Pu.add (p : Pu) (i n : Int) : Pu := if i = 0 then { p with h0 := p.h0 + n } else { p with h1 := p.h1 + n }
def Pu.more (p : Pu) : Pu := { p with no := p.no + 1 }
def Pu.pay (p : Pu) (fr am : Int) : Int × Pu :=
 if p.next = 0 then
  if fr < 0 ∨ 1 < fr then (28, pu0) else if posB am then (if p.have_ fr < am then (21, pu0) else (0, ((p.add fr (-am)).add (1 - fr) am).more)) else (2, pu0)
 else (p.next, pu0)
def Pu.hold (p : Pu) (h : Hd) : Int × Pu :=
 if p.next = 0 then
  if h.fr < 0 ∨ 1 < h.fr then (28, pu0) else if posB h.am && far h.un then
   (if 0 ≤ placeL p.held h.nm then (7, pu0) else if 16 ≤ p.held.length then (8, pu0) else if p.have_ h.fr < h.am then (21, pu0)
    else (0, ({ p.add h.fr (-h.am) with held := p.held ++ [h] }).more)) else (2, pu0)
 else (p.next, pu0)
def Pu.part (p : Pu) (k : Nat) (over : Int) : Pu :=
 { ((p.add (1 - (p.held.getD k default).fr) over).add (p.held.getD k default).fr ((p.held.getD k default).am - over)) with held := p.held.take k ++ p.held.drop (k + 1) }
def Pu.free (p : Pu) (n : D8) (over : Int) : Int × Pu :=
 if p.next = 0 then
  if placeL p.held n < 0 then (9, pu0)
  else if over < 0 ∨ (p.held.getD (placeL p.held n).toNat default).am < over then (2, pu0) else (0, (p.part (placeL p.held n).toNat over).more)
 else (p.next, pu0)
def Pu.back (p : Pu) (n : D8) (now : Int) : Int × Pu :=
 if p.next = 0 then
  if placeL p.held n < 0 then (9, pu0)
  else if now ≤ (p.held.getD (placeL p.held n).toNat default).un then (20, pu0) else (0, (p.part (placeL p.held n).toNat 0).more)
 else (p.next, pu0)
def paysK (now : Int) : List Hd → Int × Int × Int → Int × Int × Int
 | [], a => a
 | h :: l, a => paysK now l (if h.un < now then (if h.fr = 0 then (a.1 + h.am, a.2.1, a.2.2) else (a.1, a.2.1 + h.am, a.2.2)) else (a.1, a.2.1, a.2.2 + h.am))
def Pu.pays (p : Pu) (now : Int) : Int × Int × Int := if p.check = 0 then paysK now p.held (p.h0, p.h1, 0) else (0, 0, 0)
def sameHd (a b : Hd) : Bool := eqI a.nm.L b.nm.L && (a.am == b.am) && (a.fr == b.fr) && (a.un == b.un)
def Pu.same (p q : Pu) : Bool := eqI p.nm.L q.nm.L && (p.no == q.no) && (p.h0 == q.h0) && (p.h1 == q.h1) && decide (p.held.length = q.held.length) && (List.range p.held.length).all fun k => sameHd (p.held.getD k default) (q.held.getD k default)
theorem sameHd_iff {a b : Hd} : sameHd a b = true ↔ a = b := by
 obtain ⟨n, x, y, z⟩ := a
 obtain ⟨n', x', y', z'⟩ := b
 simp [sameHd, eqN_iff, and_assoc]
theorem Pu.same_iff {p q : Pu} : p.same q = true ↔ p = q := by
 obtain ⟨n, o, a, b, l⟩ := p
 obtain ⟨n', o', a', b', l'⟩ := q
 simp only [Pu.same, Bool.and_eq_true, eqN_iff, beq_iff_eq, decide_eq_true_eq, List.all_eq_true, List.mem_range, sameHd_iff, Pu.mk.injEq]
 constructor
 ·rintro ⟨⟨⟨⟨⟨h1, h2⟩, h3⟩, h4⟩, h5⟩, h6⟩
  refine ⟨h1, h2, h3, h4, List.ext_getElem h5 fun k hk hk' => ?_⟩
  have := h6 k hk
  simpa [List.getD_eq_getElem?_getD, hk, hk'] using this
 ·rintro ⟨rfl, rfl, rfl, rfl, rfl⟩
  simp
end Go.Proofs.YthhiookcknnmdaaGreat
