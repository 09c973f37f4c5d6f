/- The walks of the four deeds' inner functions (Pay, Hold, Free, Back of a purse). Conditions: bounds. -/
import Derived.Test.YtjiecnoplnaahaaPuI
import Derived.Test.YtjiecnoplnaahaaStepApp
import Derived.Deep.RegionLaw
import Derived.BigQuiet
import Derived.Deep.QuietTactic
namespace Go.Proofs.Ytjiecnoplnaahaa
open Go.RowKit Go.Lib

def Pu.payI (p : Pu) (fr am : Int) : Int × Pu :=
  if fr < 0 ∨ 1 < fr then (28, p) else if posB am then (if p.have_ fr < am then (21, p) else (0, (p.add fr (-am)).add (1 - fr) am)) else (2, p)
def Pu.holdI (p : Pu) (h : Hd) : Int × Pu :=
  if h.fr < 0 ∨ 1 < h.fr then (28, p) else if posB h.am && far h.un then
    (if 0 ≤ placeL p.held h.nm then (7, p) else if 16 ≤ p.held.length then (8, p) else if p.have_ h.fr < h.am then (21, p)
      else (0, { p.add h.fr (-h.am) with held := p.held ++ [h] })) else (2, p)
def Pu.freeI (p : Pu) (n : D8) (over : Int) : Int × Pu :=
  if placeL p.held n < 0 then (9, p)
  else if over < 0 ∨ (p.held.getD (placeL p.held n).toNat default).am < over then (2, p) else (0, p.part (placeL p.held n).toNat over)
def Pu.backI (p : Pu) (n : D8) (now : Int) : Int × Pu :=
  if placeL p.held n < 0 then (9, p)
  else if now ≤ (p.held.getD (placeL p.held n).toNat default).un then (20, p) else (0, p.part (placeL p.held n).toNat 0)
def Pu.via (p : Pu) (r : Int × Pu) : Int × Pu := if p.next = 0 then (if r.1 = 0 then (0, r.2.more) else (r.1, pu0)) else (p.next, pu0)
theorem pay_via (p : Pu) (fr am : Int) : p.pay fr am = p.via (p.payI fr am) := by
  unfold Pu.pay Pu.via Pu.payI
  by_cases h : p.next = 0
  · simp only [if_pos h]
    by_cases h1 : fr < 0 ∨ 1 < fr
    · simp only [if_pos h1]; rfl
    · simp only [if_neg h1]
      by_cases h2 : posB am = true
      · simp only [if_pos h2]
        by_cases h3 : p.have_ fr < am
        · simp only [if_pos h3]; rfl
        · simp only [if_neg h3]; rfl
      · simp only [if_neg h2]; rfl
  · simp only [if_neg h]
theorem hold_via (p : Pu) (d : Hd) : p.hold d = p.via (p.holdI d) := by
  unfold Pu.hold Pu.via Pu.holdI
  by_cases h : p.next = 0
  · simp only [if_pos h]
    by_cases h1 : d.fr < 0 ∨ 1 < d.fr
    · simp only [if_pos h1]; rfl
    · simp only [if_neg h1]
      by_cases h2 : (posB d.am && far d.un) = true
      · simp only [if_pos h2]
        by_cases h3 : 0 ≤ placeL p.held d.nm
        · simp only [if_pos h3]; rfl
        · simp only [if_neg h3]
          by_cases h4 : 16 ≤ p.held.length
          · simp only [if_pos h4]; rfl
          · simp only [if_neg h4]
            by_cases h5 : p.have_ d.fr < d.am
            · simp only [if_pos h5]; rfl
            · simp only [if_neg h5]; rfl
      · simp only [if_neg h2]; rfl
  · simp only [if_neg h]
theorem free_via (p : Pu) (n : D8) (over : Int) : p.free n over = p.via (p.freeI n over) := by
  unfold Pu.free Pu.via Pu.freeI
  by_cases h : p.next = 0
  · simp only [if_pos h]
    by_cases h1 : placeL p.held n < 0
    · simp only [if_pos h1]; rfl
    · simp only [if_neg h1]
      by_cases h2 : over < 0 ∨ (p.held.getD (placeL p.held n).toNat default).am < over
      · simp only [if_pos h2]; rfl
      · simp only [if_neg h2]; rfl
  · simp only [if_neg h]
theorem back_via (p : Pu) (n : D8) (now : Int) : p.back n now = p.via (p.backI n now) := by
  unfold Pu.back Pu.via Pu.backI
  by_cases h : p.next = 0
  · simp only [if_pos h]
    by_cases h1 : placeL p.held n < 0
    · simp only [if_pos h1]; rfl
    · simp only [if_neg h1]
      by_cases h2 : now ≤ (p.held.getD (placeL p.held n).toNat default).un
      · simp only [if_pos h2]; rfl
      · simp only [if_neg h2]; rfl
  · simp only [if_neg h]
/-- A deed's inner function: what it answers; the purse behind the pointer, if it was let. -/
def GivesQ (base g : Nat) (w : World) (r : Int × Pu) (e : Ending) (w' : World) : Prop :=
  e = .returned (.int .i64 r.1) ∧ (r.1 = 0 → ∃ A n c, PuO base g r.2 A n c w') ∧ Below base w w'
theorem givesQ_no {base g : Nat} {w w' : World} {r : Int × Pu} {k : Int} (hr : r.1 = k) (hk : k ≠ 0) (hb : Below base w w') : GivesQ base g w r (.returned (.int .i64 k)) w' :=
  ⟨by rw [hr], fun h => absurd (hr.symm.trans h) hk, hb⟩
set_option maxRecDepth 100000 in
set_option maxHeartbeats 2000000 in
theorem pay1_any (base g : Nat) (p : Pu) (A : Option Addr) (n c : Nat) (b1 b2 : Nat) (fr am : Int) (w : World) (h : PuO base g p A n c w) (hc : p.check = 0) (h1 : w.cell? ⟨b1, 0, none⟩ = some (.int .i64 fr)) (h2 : w.cell? ⟨b2, 0, none⟩ = some (.int .i64 am)) (hb1 : b1 < base) (hb2 : b2 < base) :
    Calls Try.prog 74 #[.pointer (some ⟨g, 0, none⟩), .pointer (some ⟨b1, 0, none⟩), .pointer (some ⟨b2, 0, none⟩)] w (GivesQ base g w (p.payI fr am)) := by
  have H := Lib.hid h
  obtain ⟨c1, c2, c3, _⟩ := check_iff.1 hc
  obtain ⟨u0, u1⟩ := c2
  obtain ⟨u2, u3⟩ := c3
  have hne1 : b1 ≠ g := by have := h.lo; omega
  have hne2 : b2 ≠ g := by have := h.lo; omega
  obtain ⟨z0, z1, z2, z3, z4, z5, z6, z7, z8, z9, z10, z11⟩ := PBox.all h.blk
  have zf := block_free h.blk
  have hgl := h.lt
  clear h hc c1
  by_cases hno : fr < 0
  · have Hr : Hid ((p.payI fr am).1 = 28) := by show _ = _; unfold Pu.payI; rw [if_pos (.inl hno)]
    have q1 : decide (fr < 0) = true := decide_eq_true hno
    clear hno
    go_enter Try.func74, Try.ntmps74
    go_wp2_with (go_at_call 49; refine (some_any _ _).mono ?_; rintro e w' ⟨rfl, rfl⟩)
    go_ret
    exact givesQ_no Hr.out (by decide) (Below.refl _ _)
  have q1 : decide (fr < 0) = false := decide_eq_false hno
  by_cases hno2 : 1 < fr
  · have Hr : Hid ((p.payI fr am).1 = 28) := by show _ = _; unfold Pu.payI; rw [if_pos (.inr hno2)]
    have q2 : decide (1 < fr) = true := decide_eq_true hno2
    clear hno2
    clear hno
    go_enter Try.func74, Try.ntmps74
    go_wp2_with (go_at_call 49; refine (some_any _ _).mono ?_; rintro e w' ⟨rfl, rfl⟩)
    go_ret
    exact givesQ_no Hr.out (by decide) (Below.refl _ _)
  have q2 : decide (1 < fr) = false := decide_eq_false hno2
  have hfr : fr = 0 ∨ fr = 1 := by omega
  by_cases hp : posB am = true
  · have hamb := posB_iff.1 hp
    obtain ⟨m0, m1⟩ := hamb
    rcases hfr with rfl | rfl
    · clear hno hno2 q1 q2
      by_cases h3 : p.h0 < am
      · have Hr : Hid ((p.payI 0 am).1 = 21) := by show _ = _; unfold Pu.payI; rw [if_neg (by omega), if_pos hp]; exact congrArg Prod.fst (if_pos h3)
        have hn2 : decide (p.h0 < am) = true := decide_eq_true h3
        clear h3
        go_enter Try.func74, Try.ntmps74
        go_wp2_with (go_at_call 49; refine (some_any _ _).mono ?_; rintro e w' ⟨rfl, rfl⟩)
        go_region
        go_wp2
        go_ret
        exact givesQ_no Hr.out (by decide) (Below.refl _ _).drew
      · have hr : p.payI 0 am = (0, ⟨p.nm, p.no, p.h0 - am, p.h1 + am, p.held⟩) := by
          unfold Pu.payI; rw [if_neg (by omega), if_pos hp, if_neg (show ¬ p.have_ 0 < am from h3)]; rfl
        have hn2 : decide (p.h0 < am) = false := decide_eq_false h3
        have hn3 : am ≤ p.h0 := by omega
        have Hr : Hid (p.payI 0 am = (0, ⟨p.nm, p.no, (p.h0 - am), (p.h1 + am), p.held⟩)) := hr
        have HB2 : Hid ((((w.drew.drew.setCell ⟨g, 9, none⟩ (.int .i64 (p.h0 - am))).drew).setCell ⟨g, 10, none⟩ (.int .i64 (p.h1 + am))).heap[g]? = some (.cells #[.int .u8 (p.nm.x0 : Int), .int .u8 (p.nm.x1 : Int), .int .u8 (p.nm.x2 : Int), .int .u8 (p.nm.x3 : Int), .int .u8 (p.nm.x4 : Int), .int .u8 (p.nm.x5 : Int), .int .u8 (p.nm.x6 : Int), .int .u8 (p.nm.x7 : Int), .int .i64 p.no, .int .i64 (p.h0 - am), .int .i64 (p.h1 + am), .slice A n c] 32 (0, 0))) := by
          have h1 := Joins.block_setCell (w := w.drew.drew) (i := 9) H.out.blk (.int .i64 (p.h0 - am))
          have h2 := Joins.block_setCell (w := (w.drew.drew.setCell ⟨g, 9, none⟩ (.int .i64 (p.h0 - am))).drew) (i := 10) h1 (.int .i64 (p.h1 + am))
          show _ = _
          simpa using h2
        have HO2 : Hid ((((w.drew.drew.setCell ⟨g, 9, none⟩ (.int .i64 (p.h0 - am))).drew).setCell ⟨g, 10, none⟩ (.int .i64 (p.h1 + am))).ownsRow base 56 11 (.slice A n c) n (flatH p.held)) := by
          have h1 := Joins.block_setCell (w := w.drew.drew) (i := 9) H.out.blk (.int .i64 (p.h0 - am))
          exact own_set (w := (w.drew.drew.setCell ⟨g, 9, none⟩ (.int .i64 (p.h0 - am))).drew) (own_set (w := w.drew.drew) H.out.own H.out.blk (by decide) _ _) h1 (by decide) _ _
        have HW2 : Hid (Below base w (((w.drew.drew.setCell ⟨g, 9, none⟩ (.int .i64 (p.h0 - am))).drew).setCell ⟨g, 10, none⟩ (.int .i64 (p.h1 + am)))) :=
          (((((Below.refl base w).drew).drew).setCell (by exact H.out.lo) _).drew).setCell (by exact H.out.lo) _
        clear h3 hr
        go_enter Try.func74, Try.ntmps74
        go_wp2_with (go_at_call 49; refine (some_any _ _).mono ?_; rintro e w' ⟨rfl, rfl⟩)
        go_region
        go_wp2
        go_region
        go_wp2
        go_region
        go_wp2
        go_ret
        exact ⟨by rw [Hr.out]; rfl, fun _ => ⟨A, n, c, by rw [Hr.out]; exact ⟨HB2.out, HO2.out, H.out.lo⟩⟩, HW2.out⟩
    · clear hno hno2 q1 q2
      by_cases h3 : p.h1 < am
      · have Hr : Hid ((p.payI 1 am).1 = 21) := by show _ = _; unfold Pu.payI; rw [if_neg (by omega), if_pos hp]; exact congrArg Prod.fst (if_pos h3)
        have hn2 : decide (p.h1 < am) = true := decide_eq_true h3
        clear h3
        go_enter Try.func74, Try.ntmps74
        go_wp2_with (go_at_call 49; refine (some_any _ _).mono ?_; rintro e w' ⟨rfl, rfl⟩)
        go_region
        go_wp2
        go_ret
        exact givesQ_no Hr.out (by decide) (Below.refl _ _).drew
      · have hr : p.payI 1 am = (0, ⟨p.nm, p.no, p.h0 + am, p.h1 - am, p.held⟩) := by
          unfold Pu.payI; rw [if_neg (by omega), if_pos hp, if_neg (show ¬ p.have_ 1 < am from h3)]; rfl
        have hn2 : decide (p.h1 < am) = false := decide_eq_false h3
        have hn3 : am ≤ p.h1 := by omega
        have Hr : Hid (p.payI 1 am = (0, ⟨p.nm, p.no, (p.h0 + am), (p.h1 - am), p.held⟩)) := hr
        have HB2 : Hid ((((w.drew.drew.setCell ⟨g, 10, none⟩ (.int .i64 (p.h1 - am))).drew).setCell ⟨g, 9, none⟩ (.int .i64 (p.h0 + am))).heap[g]? = some (.cells #[.int .u8 (p.nm.x0 : Int), .int .u8 (p.nm.x1 : Int), .int .u8 (p.nm.x2 : Int), .int .u8 (p.nm.x3 : Int), .int .u8 (p.nm.x4 : Int), .int .u8 (p.nm.x5 : Int), .int .u8 (p.nm.x6 : Int), .int .u8 (p.nm.x7 : Int), .int .i64 p.no, .int .i64 (p.h0 + am), .int .i64 (p.h1 - am), .slice A n c] 32 (0, 0))) := by
          have h1 := Joins.block_setCell (w := w.drew.drew) (i := 10) H.out.blk (.int .i64 (p.h1 - am))
          have h2 := Joins.block_setCell (w := (w.drew.drew.setCell ⟨g, 10, none⟩ (.int .i64 (p.h1 - am))).drew) (i := 9) h1 (.int .i64 (p.h0 + am))
          show _ = _
          simpa using h2
        have HO2 : Hid ((((w.drew.drew.setCell ⟨g, 10, none⟩ (.int .i64 (p.h1 - am))).drew).setCell ⟨g, 9, none⟩ (.int .i64 (p.h0 + am))).ownsRow base 56 11 (.slice A n c) n (flatH p.held)) := by
          have h1 := Joins.block_setCell (w := w.drew.drew) (i := 10) H.out.blk (.int .i64 (p.h1 - am))
          exact own_set (w := (w.drew.drew.setCell ⟨g, 10, none⟩ (.int .i64 (p.h1 - am))).drew) (own_set (w := w.drew.drew) H.out.own H.out.blk (by decide) _ _) h1 (by decide) _ _
        have HW2 : Hid (Below base w (((w.drew.drew.setCell ⟨g, 10, none⟩ (.int .i64 (p.h1 - am))).drew).setCell ⟨g, 9, none⟩ (.int .i64 (p.h0 + am)))) :=
          (((((Below.refl base w).drew).drew).setCell (by exact H.out.lo) _).drew).setCell (by exact H.out.lo) _
        clear h3 hr
        go_enter Try.func74, Try.ntmps74
        go_wp2_with (go_at_call 49; refine (some_any _ _).mono ?_; rintro e w' ⟨rfl, rfl⟩)
        go_region
        go_wp2
        go_region
        go_wp2
        go_region
        go_wp2
        go_ret
        exact ⟨by rw [Hr.out]; rfl, fun _ => ⟨A, n, c, by rw [Hr.out]; exact ⟨HB2.out, HO2.out, H.out.lo⟩⟩, HW2.out⟩
  · have hp' : posB am = false := by simpa using hp
    have Hr : Hid ((p.payI fr am).1 = 2) := by show _ = _; unfold Pu.payI; rw [if_neg (by omega), if_neg hp]
    clear hp
    clear hno
    go_enter Try.func74, Try.ntmps74
    go_wp2_with (go_at_call 49; refine (some_any _ _).mono ?_; rintro e w' ⟨rfl, rfl⟩)
    go_ret
    exact givesQ_no Hr.out (by decide) (Below.refl _ _)
end Go.Proofs.Ytjiecnoplnaahaa
