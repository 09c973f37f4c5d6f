/- The walks of the four deeds' inner functions (Pay, Hold, Free, Back of a purse). Conditions: bounds. -/
import Derived.Test.YthhiookcknnmdaaGreatPuI
import Derived.Test.YthhiookcknnmdaaGreatStepApp
import Derived.Deep.RegionLaw
import Derived.BigQuiet
import Derived.Deep.QuietTactic
namespace Go.Proofs.YthhiookcknnmdaaGreat
open Go.RowKit Go.Lib

def Pu.payI (p : Pu) (fr am : Int) : Int × Pu :=
 if fr < 0 ∨ 1 < fr then (28, p) else if posB am then (if p.have_ fr < am then (21, p) else (0, (p.add fr (-am)).add (1 - fr) am)) else (2, p)
def Pu.holdI (p : Pu) (h : Hd) : Int × Pu :=
 if h.fr < 0 ∨ 1 < h.fr then (28, p) else if posB h.am && far h.un then
  (if 0 ≤ placeL p.held h.nm then (7, p) else if 16 ≤ p.held.length then (8, p) else if p.have_ h.fr < h.am then (21, p)
   else (0, { p.add h.fr (-h.am) with held := p.held ++ [h] })) else (2, p)
def Pu.freeI (p : Pu) (n : D8) (over : Int) : Int × Pu :=
 if placeL p.held n < 0 then (9, p)
 else if over < 0 ∨ (p.held.getD (placeL p.held n).toNat default).am < over then (2, p) else (0, p.part (placeL p.held n).toNat over)
def Pu.backI (p : Pu) (n : D8) (now : Int) : Int × Pu :=
 if placeL p.held n < 0 then (9, p)
 else if now ≤ (p.held.getD (placeL p.held n).toNat default).un then (20, p) else (0, p.part (placeL p.held n).toNat 0)
def Pu.via (p : Pu) (r : Int × Pu) : Int × Pu := if p.next = 0 then (if r.1 = 0 then (0, r.2.more) else (r.1, pu0)) else (p.next, pu0)
theorem pay_via (p : Pu) (fr am : Int) : p.pay fr am = p.via (p.payI fr am) := by
 unfold Pu.pay Pu.via Pu.payI
 by_cases h : p.next = 0
 ·simp only [if_pos h]
  by_cases h1 : fr < 0 ∨ 1 < fr
  ·simp only [if_pos h1]; rfl
  ·simp only [if_neg h1]
   by_cases h2 : posB am = true
   ·simp only [if_pos h2]
    by_cases h3 : p.have_ fr < am
    ·simp only [if_pos h3]; rfl
    ·simp only [if_neg h3]; rfl
   ·simp only [if_neg h2]; rfl
 ·simp only [if_neg h]
theorem hold_via (p : Pu) (d : Hd) : p.hold d = p.via (p.holdI d) := by
 unfold Pu.hold Pu.via Pu.holdI
 by_cases h : p.next = 0
 ·simp only [if_pos h]
  by_cases h1 : d.fr < 0 ∨ 1 < d.fr
  ·simp only [if_pos h1]; rfl
  ·simp only [if_neg h1]
   by_cases h2 : (posB d.am && far d.un) = true
   ·simp only [if_pos h2]
    by_cases h3 : 0 ≤ placeL p.held d.nm
    ·simp only [if_pos h3]; rfl
    ·simp only [if_neg h3]
     by_cases h4 : 16 ≤ p.held.length
     ·simp only [if_pos h4]; rfl
     ·simp only [if_neg h4]
      by_cases h5 : p.have_ d.fr < d.am
      ·simp only [if_pos h5]; rfl
      ·simp only [if_neg h5]; rfl
   ·simp only [if_neg h2]; rfl
 ·simp only [if_neg h]
theorem free_via (p : Pu) (n : D8) (over : Int) : p.free n over = p.via (p.freeI n over) := by
 unfold Pu.free Pu.via Pu.freeI
 by_cases h : p.next = 0
 ·simp only [if_pos h]
  by_cases h1 : placeL p.held n < 0
  ·simp only [if_pos h1]; rfl
  ·simp only [if_neg h1]
   by_cases h2 : over < 0 ∨ (p.held.getD (placeL p.held n).toNat default).am < over
   ·simp only [if_pos h2]; rfl
   ·simp only [if_neg h2]; rfl
 ·simp only [if_neg h]
theorem back_via (p : Pu) (n : D8) (now : Int) : p.back n now = p.via (p.backI n now) := by
 unfold Pu.back Pu.via Pu.backI
 by_cases h : p.next = 0
 ·simp only [if_pos h]
  by_cases h1 : placeL p.held n < 0
  ·simp only [if_pos h1]; rfl
  ·simp only [if_neg h1]
   by_cases h2 : now ≤ (p.held.getD (placeL p.held n).toNat default).un
   ·simp only [if_pos h2]; rfl
   ·simp only [if_neg h2]; rfl
 ·simp only [if_neg h]
def GivesQ (base g : Nat) (w : World) (r : Int × Pu) (e : Ending) (w' : World) : Prop :=
 e = .returned (.int .i64 r.1) ∧ (r.1 = 0 → ∃ A n c, PuO base g r.2 A n c w') ∧ Below base w w'
theorem givesQ_no {base g : Nat} {w w' : World} {r : Int × Pu} {k : Int} (hr : r.1 = k) (hk : k ≠ 0) (hb : Below base w w') : GivesQ base g w r (.returned (.int .i64 k)) w' :=
 ⟨by rw [hr], fun h => absurd (hr.symm.trans h) hk, hb⟩
end Go.Proofs.YthhiookcknnmdaaGreat
