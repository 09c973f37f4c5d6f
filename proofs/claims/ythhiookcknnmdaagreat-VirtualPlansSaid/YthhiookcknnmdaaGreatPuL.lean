/- The walk of Hold's inner function (of a purse). Conditions: bounds. -/
import Derived.Test.YthhiookcknnmdaaGreatPuJ
namespace Go.Proofs.YthhiookcknnmdaaGreat
open Go.RowKit Go.Lib

theorem PuO.below {base g n c : Nat} {p : Pu} {A : Option Addr} {w w' : World} (h : PuO base g p A n c w) (hb : Below w.heap.size w w') : PuO base g p A n c w' :=
 ⟨block_below h.blk hb h.lt, own_below h.own hb, h.lo⟩
theorem PuO.at_ {base g n c : Nat} {p : Pu} {A : Option Addr} {w : World} (h : PuO base g p A n c w) (hn : p.held.length ≤ 1000000) (hc : n ≤ c) : PuV.At p A n c w :=
 ⟨Rd.of_own h.own, hc, by have := h.hlen; omega⟩
theorem PuO.cap {base g n c : Nat} {p : Pu} {A : Option Addr} {w : World} (h : PuO base g p A n c w) : n ≤ c := by
 rcases h.own.2 with ⟨hv, hn⟩ | ⟨_, cap, _, hv, _, _, hn, _⟩
 ·omega
 ·injection hv with _ _ h3; omega
theorem PuO.drew {base g n c : Nat} {p : Pu} {A : Option Addr} {w : World} (h : PuO base g p A n c w) : PuO base g p A n c w.drew := ⟨h.blk, h.own.drew, h.lo⟩
theorem PuV.At.drew {p : Pu} {A : Option Addr} {n c : Nat} {w : World} (h : PuV.At p A n c w) : PuV.At p A n c w.drew := ⟨h.rd, h.cap, h.small⟩
theorem HBox.all {h : Hd} {w : World} {b : Nat} {T : TypeId} (hb : w.heap[b]? = some (.cells #[.int .u8 h.nm.x0, .int .u8 h.nm.x1, .int .u8 h.nm.x2, .int .u8 h.nm.x3, .int .u8 h.nm.x4, .int .u8 h.nm.x5, .int .u8 h.nm.x6, .int .u8 h.nm.x7, .int .i64 h.am, .int .i64 h.fr, .int .i64 h.un] T (0, 0))) :
  w.cell? ⟨b, 0, none⟩ = some (.int .u8 h.nm.x0) ∧ w.cell? ⟨b, 1, none⟩ = some (.int .u8 h.nm.x1) ∧ w.cell? ⟨b, 2, none⟩ = some (.int .u8 h.nm.x2) ∧ w.cell? ⟨b, 3, none⟩ = some (.int .u8 h.nm.x3) ∧
  w.cell? ⟨b, 4, none⟩ = some (.int .u8 h.nm.x4) ∧ w.cell? ⟨b, 5, none⟩ = some (.int .u8 h.nm.x5) ∧ w.cell? ⟨b, 6, none⟩ = some (.int .u8 h.nm.x6) ∧ w.cell? ⟨b, 7, none⟩ = some (.int .u8 h.nm.x7) ∧
  w.cell? ⟨b, 8, none⟩ = some (.int .i64 h.am) ∧ w.cell? ⟨b, 9, none⟩ = some (.int .i64 h.fr) ∧ w.cell? ⟨b, 10, none⟩ = some (.int .i64 h.un) :=
 ⟨block_cell hb 0, block_cell hb 1, block_cell hb 2, block_cell hb 3, block_cell hb 4, block_cell hb 5, block_cell hb 6, block_cell hb 7, block_cell hb 8, block_cell hb 9, block_cell hb 10⟩
set_option maxRecDepth 100000 in
set_option maxHeartbeats 2000000 in
theorem hold1_any (base g : Nat) (p : Pu) (A : Option Addr) (n c : Nat) (bh : Nat) (h : Hd) (w : World) (hq : PuO base g p A n c w) (hc : p.check = 0) (hbh : w.heap[bh]? = some (.cells #[.int .u8 h.nm.x0, .int .u8 h.nm.x1, .int .u8 h.nm.x2, .int .u8 h.nm.x3, .int .u8 h.nm.x4, .int .u8 h.nm.x5, .int .u8 h.nm.x6, .int .u8 h.nm.x7, .int .i64 h.am, .int .i64 h.fr, .int .i64 h.un] 120 (0, 0))) (hlt : bh < base) :
  Calls Tryz.prog 162 #[.pointer (some ⟨g, 0, none⟩), .pointer (some ⟨bh, 0, none⟩)] w (GivesQ base g w (p.holdI h)) := by
 have H := Lib.hid hq
 have HBh := Lib.hid hbh
 obtain ⟨c1, c2, c3, c4, _⟩ := check_iff.1 hc
 obtain ⟨u0, u1⟩ := c2
 obtain ⟨u2, u3⟩ := c3
 have hne1 : bh ≠ g := by have := hq.lo; omega
 have HA := Lib.hid (hq.at_ (by omega) hq.cap)
 have Hl := Lib.hid hq.hlen
 have Hbase : Hid (base ≤ w.heap.size) := by show _ ≤ _; have := hq.lo; have := hq.lt; omega
 obtain ⟨z0, z1, z2, z3, z4, z5, z6, z7, z8, z9, z10, z11⟩ := PBox.all hq.blk
 have zf := block_free hq.blk
 have hgl := hq.lt
 have hbl := block_lt hbh
 obtain ⟨x0, x1, x2, x3, x4, x5, x6, x7, x8, x9, x10⟩ := HBox.all hbh
 have hn16 : n ≤ 16 := by rw [← Hl.out]; exact c4
 clear hq hc c1 c4 hbh
 by_cases hno : h.fr < 0
 ·have Hr : Hid ((p.holdI h).1 = 28) := by show _ = _; unfold Pu.holdI; rw [if_pos (.inl hno)]
  have q1 : decide (h.fr < 0) = true := decide_eq_true hno
  clear hno
  go_enter Tryz.func162, Tryz.ntmps162
  go_wp2_with (first | (go_at_call 152; refine (some_any _ _).mono ?_; rintro e w' ⟨rfl, rfl⟩) | (go_at_call 150; refine (far_any _ _).mono ?_; rintro e w' ⟨rfl, rfl⟩))
  go_ret
  exact givesQ_no Hr.out (by decide) (Below.refl _ _)
 have q1 : decide (h.fr < 0) = false := decide_eq_false hno
 by_cases hno2 : 1 < h.fr
 ·have Hr : Hid ((p.holdI h).1 = 28) := by show _ = _; unfold Pu.holdI; rw [if_pos (.inr hno2)]
  have q2 : decide (1 < h.fr) = true := decide_eq_true hno2
  clear hno2 hno
  go_enter Tryz.func162, Tryz.ntmps162
  go_wp2_with (first | (go_at_call 152; refine (some_any _ _).mono ?_; rintro e w' ⟨rfl, rfl⟩) | (go_at_call 150; refine (far_any _ _).mono ?_; rintro e w' ⟨rfl, rfl⟩))
  go_ret
  exact givesQ_no Hr.out (by decide) (Below.refl _ _)
 have q2 : decide (1 < h.fr) = false := decide_eq_false hno2
 have hfr : h.fr = 0 ∨ h.fr = 1 := by omega
 have Hno : Hid (¬ (h.fr < 0 ∨ 1 < h.fr)) := by show ¬ _; omega
 by_cases q3 : posB h.am = false
 ·have Hr : Hid ((p.holdI h).1 = 2) := by show _ = _; unfold Pu.holdI; rw [if_neg Hno.out, if_neg (by simp [q3])]
  clear hno hno2 hfr
  go_enter Tryz.func162, Tryz.ntmps162
  go_wp2_with (first | (go_at_call 152; refine (some_any _ _).mono ?_; rintro e w' ⟨rfl, rfl⟩) | (go_at_call 150; refine (far_any _ _).mono ?_; rintro e w' ⟨rfl, rfl⟩))
  go_ret
  exact givesQ_no Hr.out (by decide) (Below.refl _ _)
 replace q3 : posB h.am = true := by simpa using q3
 by_cases q4 : far h.un = false
 ·have Hr : Hid ((p.holdI h).1 = 2) := by show _ = _; unfold Pu.holdI; rw [if_neg Hno.out, if_neg (by simp [q4])]
  clear hno hno2 hfr
  go_enter Tryz.func162, Tryz.ntmps162
  go_wp2_with (first | (go_at_call 152; refine (some_any _ _).mono ?_; rintro e w' ⟨rfl, rfl⟩) | (go_at_call 150; refine (far_any _ _).mono ?_; rintro e w' ⟨rfl, rfl⟩))
  go_ret
  exact givesQ_no Hr.out (by decide) (Below.refl _ _)
 replace q4 : far h.un = true := by simpa using q4
 have Hpf : Hid ((posB h.am && far h.un) = true) := by show _ = _; simp [q3, q4]
 have hamb := posB_iff.1 q3
 obtain ⟨m0, m1⟩ := hamb
 by_cases q5 : 0 ≤ placeL p.held h.nm
 ·have Hr : Hid ((p.holdI h).1 = 7) := by show _ = _; unfold Pu.holdI; rw [if_neg Hno.out, if_pos Hpf.out, if_pos q5]
  have q5' : decide (0 ≤ placeL p.held h.nm) = true := decide_eq_true q5
  clear hno hno2 hfr q5
  go_enter Tryz.func162, Tryz.ntmps162
  go_wp2_with (first | (go_at_call 152; refine (some_any _ _).mono ?_; rintro e w' ⟨rfl, rfl⟩) | (go_at_call 150; refine (far_any _ _).mono ?_; rintro e w' ⟨rfl, rfl⟩))
  go_region_law (go_simp; go_at_call 142; go_must (refine (place_any p A n c _ w.drew HA.out.drew).mono ?_; rintro e w1 ⟨rfl, hb1⟩; have H1 := Lib.hid (PuO.below H.out.drew hb1); have HBh1 := Lib.hid (block_below (w := w.drew) HBh.out hb1 (by exact hbl)); have Hw1 := Lib.hid ((Below.refl base w).drew.trans (hb1.mono (by exact Hbase.out))); clear hb1 x0 x1 x2 x3 x4 x5 x6 x7 x8 x9 x10 z0 z1 z2 z3 z4 z5 z6 z7 z8 z9 z10 z11 zf hgl hbl))
  all_goals
   obtain ⟨x0, x1, x2, x3, x4, x5, x6, x7, x8, x9, x10⟩ := HBox.all (h := h) HBh1.out
   obtain ⟨z0, z1, z2, z3, z4, z5, z6, z7, z8, z9, z10, z11⟩ := PBox.all H1.out.blk
   have zf := block_free H1.out.blk
   have hgl := H1.out.lt
   have hbl := block_lt HBh1.out
   go_wp2
   go_ret
   exact givesQ_no Hr.out (by decide) Hw1.out
 have q5' : decide (0 ≤ placeL p.held h.nm) = false := decide_eq_false q5
 by_cases q6 : 16 ≤ n
 ·have Hr : Hid ((p.holdI h).1 = 8) := by show _ = _; unfold Pu.holdI; rw [if_neg Hno.out, if_pos Hpf.out, if_neg q5, if_pos (by rw [Hl.out]; exact q6)]
  have q6' : decide ((16 : Int) ≤ (n : Int)) = true := decide_eq_true (by omega)
  clear hno hno2 hfr q5
  go_enter Tryz.func162, Tryz.ntmps162
  go_wp2_with (first | (go_at_call 152; refine (some_any _ _).mono ?_; rintro e w' ⟨rfl, rfl⟩) | (go_at_call 150; refine (far_any _ _).mono ?_; rintro e w' ⟨rfl, rfl⟩))
  go_region_law (go_simp; go_at_call 142; go_must (refine (place_any p A n c _ w.drew HA.out.drew).mono ?_; rintro e w1 ⟨rfl, hb1⟩; have H1 := Lib.hid (PuO.below H.out.drew hb1); have HBh1 := Lib.hid (block_below (w := w.drew) HBh.out hb1 (by exact hbl)); have Hw1 := Lib.hid ((Below.refl base w).drew.trans (hb1.mono (by exact Hbase.out))); clear hb1 x0 x1 x2 x3 x4 x5 x6 x7 x8 x9 x10 z0 z1 z2 z3 z4 z5 z6 z7 z8 z9 z10 z11 zf hgl hbl))
  all_goals
   obtain ⟨x0, x1, x2, x3, x4, x5, x6, x7, x8, x9, x10⟩ := HBox.all (h := h) HBh1.out
   obtain ⟨z0, z1, z2, z3, z4, z5, z6, z7, z8, z9, z10, z11⟩ := PBox.all H1.out.blk
   have zf := block_free H1.out.blk
   have hgl := H1.out.lt
   have hbl := block_lt HBh1.out
   go_wp2
   go_ret
   exact givesQ_no Hr.out (by decide) Hw1.out
 have q6' : decide ((16 : Int) ≤ (n : Int)) = false := decide_eq_false (by omega)
 obtain ⟨i0, hi, hz0, hz1, hz2⟩ := info_parts info_Held
 have HI := Lib.hid (And.intro hi (And.intro hz0 (And.intro hz1 hz2))); clear hi hz0 hz1 hz2
 have Hq6 : Hid (¬ 16 ≤ p.held.length) := by show ¬ _; rw [Hl.out]; exact q6
 have Hq5 := Lib.hid q5
 have hn15 : n ≤ 15 := by omega
 clear q6 q5
 obtain ⟨fn, fa, ff, fu⟩ := h
 simp only at *
 rcases hfr with rfl | rfl
 ·clear hno hno2 q1 q2
  by_cases h3 : p.h0 < fa
  ·have Hr : Hid ((p.holdI ⟨fn, fa, 0, fu⟩).1 = 21) := by show _ = _; unfold Pu.holdI; rw [if_neg Hno.out, if_pos Hpf.out, if_neg Hq5.out, if_neg Hq6.out]; exact congrArg Prod.fst (if_pos h3)
   have hn2 : decide (p.h0 < fa) = true := decide_eq_true h3
   clear h3
   go_enter Tryz.func162, Tryz.ntmps162
   go_wp2_with (first | (go_at_call 152; refine (some_any _ _).mono ?_; rintro e w' ⟨rfl, rfl⟩) | (go_at_call 150; refine (far_any _ _).mono ?_; rintro e w' ⟨rfl, rfl⟩))
   go_region_law (go_simp; go_at_call 142; go_must (refine (place_any p A n c _ w.drew HA.out.drew).mono ?_; rintro e w1 ⟨rfl, hb1⟩; have H1 := Lib.hid (PuO.below H.out.drew hb1); have HBh1 := Lib.hid (block_below (w := w.drew) HBh.out hb1 (by exact hbl)); have Hw1 := Lib.hid ((Below.refl base w).drew.trans (hb1.mono (by exact Hbase.out))); clear hb1 x0 x1 x2 x3 x4 x5 x6 x7 x8 x9 x10 z0 z1 z2 z3 z4 z5 z6 z7 z8 z9 z10 z11 zf hgl hbl))
   all_goals
    obtain ⟨x0, x1, x2, x3, x4, x5, x6, x7, x8, x9, x10⟩ := HBox.all (h := (⟨fn, fa, 0, fu⟩ : Hd)) HBh1.out
    obtain ⟨z0, z1, z2, z3, z4, z5, z6, z7, z8, z9, z10, z11⟩ := PBox.all H1.out.blk
    have zf := block_free H1.out.blk
    have hgl := H1.out.lt
    have hbl := block_lt HBh1.out
    go_wp2
    go_region
    go_wp2
    go_ret
    exact givesQ_no Hr.out (by decide) Hw1.out.drew
  ·have hr : p.holdI ⟨fn, fa, 0, fu⟩ = (0, ⟨p.nm, p.no, p.h0 - fa, p.h1, p.held ++ [⟨fn, fa, 0, fu⟩]⟩) := by
    unfold Pu.holdI; rw [if_neg Hno.out, if_pos Hpf.out, if_neg Hq5.out, if_neg Hq6.out, if_neg (show ¬ p.have_ 0 < fa from h3)]; rfl
   have hn2 : decide (p.h0 < fa) = false := decide_eq_false h3
   have hn3 : fa ≤ p.h0 := by omega
   have Hr := Lib.hid hr
   clear h3 hr
   go_enter Tryz.func162, Tryz.ntmps162
   go_wp2_with (first | (go_at_call 152; refine (some_any _ _).mono ?_; rintro e w' ⟨rfl, rfl⟩) | (go_at_call 150; refine (far_any _ _).mono ?_; rintro e w' ⟨rfl, rfl⟩))
   go_region_law (go_simp; go_at_call 142; go_must (refine (place_any p A n c _ w.drew HA.out.drew).mono ?_; rintro e w1 ⟨rfl, hb1⟩; have H1 := Lib.hid (PuO.below H.out.drew hb1); have HBh1 := Lib.hid (block_below (w := w.drew) HBh.out hb1 (by exact hbl)); have Hw1 := Lib.hid ((Below.refl base w).drew.trans (hb1.mono (by exact Hbase.out))); clear hb1 x0 x1 x2 x3 x4 x5 x6 x7 x8 x9 x10 z0 z1 z2 z3 z4 z5 z6 z7 z8 z9 z10 z11 zf hgl hbl))
   all_goals
    obtain ⟨x0, x1, x2, x3, x4, x5, x6, x7, x8, x9, x10⟩ := HBox.all (h := (⟨fn, fa, 0, fu⟩ : Hd)) HBh1.out
    obtain ⟨z0, z1, z2, z3, z4, z5, z6, z7, z8, z9, z10, z11⟩ := PBox.all H1.out.blk
    have zf := block_free H1.out.blk
    have hgl := H1.out.lt
    have hbl := block_lt HBh1.out
    have H2 : Hid (PuO base g ⟨p.nm, p.no, (p.h0 - fa), p.h1, p.held⟩ A n c (w1.setCell ⟨g, 9, none⟩ (.int .i64 (p.h0 - fa))).drew.drew) :=
     ⟨by have := Joins.block_setCell (i := 9) H1.out.blk (.int .i64 (p.h0 - fa)); simp at this; exact this, own_set H1.out.own H1.out.blk (by decide) _ _, H1.out.lo⟩
    have HBh2 : Hid ((w1.setCell ⟨g, 9, none⟩ (.int .i64 (p.h0 - fa))).drew.drew.heap[bh]? = some (.cells #[.int .u8 fn.x0, .int .u8 fn.x1, .int .u8 fn.x2, .int .u8 fn.x3, .int .u8 fn.x4, .int .u8 fn.x5, .int .u8 fn.x6, .int .u8 fn.x7, .int .i64 fa, .int .i64 0, .int .i64 fu] 120 (0, 0))) :=
     ((pgrown_set (w := w1) g 9 _).block bh hbl (fun e => hne1 (by injection e))).trans HBh1.out
    have Hw2 : Hid (Below base w (w1.setCell ⟨g, 9, none⟩ (.int .i64 (p.h0 - fa))).drew.drew) := ((Hw1.out.setCell (by exact H1.out.lo) _).drew).drew
    go_wp2
    go_region
    go_wp2
    go_region
    go_wp2
    clear x0 x1 x2 x3 x4 x5 x6 x7 x8 x9 x10 z0 z1 z2 z3 z4 z5 z6 z7 z8 z9 z10 z11 zf hgl hbl
    generalize (w1.setCell ⟨g, 9, none⟩ (.int .i64 (p.h0 - fa))).drew.drew = w2 at *
    obtain ⟨x0, x1, x2, x3, x4, x5, x6, x7, x8, x9, x10⟩ := HBox.all (h := (⟨fn, fa, 0, fu⟩ : Hd)) HBh2.out
    obtain ⟨z0, z1, z2, z3, z4, z5, z6, z7, z8, z9, z10, z11⟩ := PBox.all H2.out.blk
    have zf := block_free H2.out.blk
    have hgl := H2.out.lt
    have hbl := block_lt HBh2.out
    have hbs : base ≤ w2.heap.size := by have := H2.out.lo; omega
    have HO3 : Hid ((w2.drew.alloc (.cells #[.int .u8 fn.x0, .int .u8 fn.x1, .int .u8 fn.x2, .int .u8 fn.x3, .int .u8 fn.x4, .int .u8 fn.x5, .int .u8 fn.x6, .int .u8 fn.x7, .int .i64 fa, .int .i64 0, .int .i64 fu] 120)).ownsRow base 120 11 (.slice A n c) n (flatH p.held)) := H2.out.own.drew.alloc _
    have HRl : Hid (Rd (w2.drew.alloc (.cells #[.int .u8 fn.x0, .int .u8 fn.x1, .int .u8 fn.x2, .int .u8 fn.x3, .int .u8 fn.x4, .int .u8 fn.x5, .int .u8 fn.x6, .int .u8 fn.x7, .int .i64 fa, .int .i64 0, .int .i64 fu] 120)) (w2.heap.size + 1) 11 (some ⟨w2.heap.size, 0, none⟩) 1 (flatH [⟨fn, fa, 0, fu⟩])) := by
     have := Rd.newA (n := 1) (sz := 11) (xs := flatH [⟨fn, fa, 0, fu⟩]) w2.drew 120 #[.int .u8 fn.x0, .int .u8 fn.x1, .int .u8 fn.x2, .int .u8 fn.x3, .int .u8 fn.x4, .int .u8 fn.x5, .int .u8 fn.x6, .int .u8 fn.x7, .int .i64 fa, .int .i64 0, .int .i64 fu] rfl rfl
     simp at this
     exact this
    have HB3 : Hid ((w2.drew.alloc (.cells #[.int .u8 fn.x0, .int .u8 fn.x1, .int .u8 fn.x2, .int .u8 fn.x3, .int .u8 fn.x4, .int .u8 fn.x5, .int .u8 fn.x6, .int .u8 fn.x7, .int .i64 fa, .int .i64 0, .int .i64 fu] 120)).heap[g]? = some (.cells #[.int .u8 p.nm.x0, .int .u8 p.nm.x1, .int .u8 p.nm.x2, .int .u8 p.nm.x3, .int .u8 p.nm.x4, .int .u8 p.nm.x5, .int .u8 p.nm.x6, .int .u8 p.nm.x7, .int .i64 p.no, .int .i64 (p.h0 - fa), .int .i64 p.h1, .slice A n c] 85 (0, 0))) := block_alloc (w := w2.drew) H2.out.blk _
    have Hw3 : Hid (Below base w (w2.drew.alloc (.cells #[.int .u8 fn.x0, .int .u8 fn.x1, .int .u8 fn.x2, .int .u8 fn.x3, .int .u8 fn.x4, .int .u8 fn.x5, .int .u8 fn.x6, .int .u8 fn.x7, .int .i64 fa, .int .i64 0, .int .i64 fu] 120))) := Hw2.out.drew.alloc (by exact hbs) _
    go_region_law (refine step_append_rdg (w2.drew.alloc (.cells #[.int .u8 fn.x0, .int .u8 fn.x1, .int .u8 fn.x2, .int .u8 fn.x3, .int .u8 fn.x4, .int .u8 fn.x5, .int .u8 fn.x6, .int .u8 fn.x7, .int .i64 fa, .int .i64 0, .int .i64 fu] 120)) (by rfl) _ _ 83 (by rfl) base 120 i0 (.agg #[.int .u8 0, .int .u8 0, .int .u8 0, .int .u8 0, .int .u8 0, .int .u8 0, .int .u8 0, .int .u8 0, .int .i64 0, .int .i64 0, .int .i64 0]) 11 32 Tryz.underlying83 HI.out rfl (by decide) _ _ _ (by rfl) HO3.out (w2.heap.size + 1) (some ⟨w2.heap.size, 0, none⟩) 1 1 _ (by simp [Act.eval]) HRl.out (flatH_one _) (by omega) (by omega) (by simp; omega) ?_; go_must (intro v4 w4 ho4 hb4 hg4; obtain ⟨A4, c4, rfl⟩ := own_form ho4; have HB4 := Lib.hid (block_grown HB3.out hg4 (own_ne HO3.out HB3.out (by decide))); have q11 := block_cell HB4.out 11; have qf := block_free HB4.out; simp at q11; have HO4 := Lib.hid ho4; have Hw4 := Lib.hid (Hw3.out.trans hb4); clear ho4 hb4 hg4))
    all_goals
     go_wp2
     go_ret
     refine ⟨by rw [Hr.out]; rfl, fun _ => ⟨A4, n + 1, c4, ?_⟩, Hw4.out.setCell (by exact H2.out.lo) _⟩
     rw [Hr.out]
     refine ⟨?_, ?_, H2.out.lo⟩
     ·have := Joins.block_setCell (i := 11) HB4.out (.slice A4 (n + 1) c4)
      simp at this
      exact this
     ·have := own_set HO4.out HB4.out (by decide) 11 (.slice A4 (n + 1) c4)
      rw [← flatH_append] at this
      exact this
 ·clear hno hno2 q1 q2
  by_cases h3 : p.h1 < fa
  ·have Hr : Hid ((p.holdI ⟨fn, fa, 1, fu⟩).1 = 21) := by show _ = _; unfold Pu.holdI; rw [if_neg Hno.out, if_pos Hpf.out, if_neg Hq5.out, if_neg Hq6.out]; exact congrArg Prod.fst (if_pos h3)
   have hn2 : decide (p.h1 < fa) = true := decide_eq_true h3
   clear h3
   go_enter Tryz.func162, Tryz.ntmps162
   go_wp2_with (first | (go_at_call 152; refine (some_any _ _).mono ?_; rintro e w' ⟨rfl, rfl⟩) | (go_at_call 150; refine (far_any _ _).mono ?_; rintro e w' ⟨rfl, rfl⟩))
   go_region_law (go_simp; go_at_call 142; go_must (refine (place_any p A n c _ w.drew HA.out.drew).mono ?_; rintro e w1 ⟨rfl, hb1⟩; have H1 := Lib.hid (PuO.below H.out.drew hb1); have HBh1 := Lib.hid (block_below (w := w.drew) HBh.out hb1 (by exact hbl)); have Hw1 := Lib.hid ((Below.refl base w).drew.trans (hb1.mono (by exact Hbase.out))); clear hb1 x0 x1 x2 x3 x4 x5 x6 x7 x8 x9 x10 z0 z1 z2 z3 z4 z5 z6 z7 z8 z9 z10 z11 zf hgl hbl))
   all_goals
    obtain ⟨x0, x1, x2, x3, x4, x5, x6, x7, x8, x9, x10⟩ := HBox.all (h := (⟨fn, fa, 1, fu⟩ : Hd)) HBh1.out
    obtain ⟨z0, z1, z2, z3, z4, z5, z6, z7, z8, z9, z10, z11⟩ := PBox.all H1.out.blk
    have zf := block_free H1.out.blk
    have hgl := H1.out.lt
    have hbl := block_lt HBh1.out
    go_wp2
    go_region
    go_wp2
    go_ret
    exact givesQ_no Hr.out (by decide) Hw1.out.drew
  ·have hr : p.holdI ⟨fn, fa, 1, fu⟩ = (0, ⟨p.nm, p.no, p.h0, p.h1 - fa, p.held ++ [⟨fn, fa, 1, fu⟩]⟩) := by
    unfold Pu.holdI; rw [if_neg Hno.out, if_pos Hpf.out, if_neg Hq5.out, if_neg Hq6.out, if_neg (show ¬ p.have_ 1 < fa from h3)]; rfl
   have hn2 : decide (p.h1 < fa) = false := decide_eq_false h3
   have hn3 : fa ≤ p.h1 := by omega
   have Hr := Lib.hid hr
   clear h3 hr
   go_enter Tryz.func162, Tryz.ntmps162
   go_wp2_with (first | (go_at_call 152; refine (some_any _ _).mono ?_; rintro e w' ⟨rfl, rfl⟩) | (go_at_call 150; refine (far_any _ _).mono ?_; rintro e w' ⟨rfl, rfl⟩))
   go_region_law (go_simp; go_at_call 142; go_must (refine (place_any p A n c _ w.drew HA.out.drew).mono ?_; rintro e w1 ⟨rfl, hb1⟩; have H1 := Lib.hid (PuO.below H.out.drew hb1); have HBh1 := Lib.hid (block_below (w := w.drew) HBh.out hb1 (by exact hbl)); have Hw1 := Lib.hid ((Below.refl base w).drew.trans (hb1.mono (by exact Hbase.out))); clear hb1 x0 x1 x2 x3 x4 x5 x6 x7 x8 x9 x10 z0 z1 z2 z3 z4 z5 z6 z7 z8 z9 z10 z11 zf hgl hbl))
   all_goals
    obtain ⟨x0, x1, x2, x3, x4, x5, x6, x7, x8, x9, x10⟩ := HBox.all (h := (⟨fn, fa, 1, fu⟩ : Hd)) HBh1.out
    obtain ⟨z0, z1, z2, z3, z4, z5, z6, z7, z8, z9, z10, z11⟩ := PBox.all H1.out.blk
    have zf := block_free H1.out.blk
    have hgl := H1.out.lt
    have hbl := block_lt HBh1.out
    have H2 : Hid (PuO base g ⟨p.nm, p.no, p.h0, (p.h1 - fa), p.held⟩ A n c (w1.setCell ⟨g, 10, none⟩ (.int .i64 (p.h1 - fa))).drew.drew) :=
     ⟨by have := Joins.block_setCell (i := 10) H1.out.blk (.int .i64 (p.h1 - fa)); simp at this; exact this, own_set H1.out.own H1.out.blk (by decide) _ _, H1.out.lo⟩
    have HBh2 : Hid ((w1.setCell ⟨g, 10, none⟩ (.int .i64 (p.h1 - fa))).drew.drew.heap[bh]? = some (.cells #[.int .u8 fn.x0, .int .u8 fn.x1, .int .u8 fn.x2, .int .u8 fn.x3, .int .u8 fn.x4, .int .u8 fn.x5, .int .u8 fn.x6, .int .u8 fn.x7, .int .i64 fa, .int .i64 1, .int .i64 fu] 120 (0, 0))) :=
     ((pgrown_set (w := w1) g 10 _).block bh hbl (fun e => hne1 (by injection e))).trans HBh1.out
    have Hw2 : Hid (Below base w (w1.setCell ⟨g, 10, none⟩ (.int .i64 (p.h1 - fa))).drew.drew) := ((Hw1.out.setCell (by exact H1.out.lo) _).drew).drew
    go_wp2
    go_region
    go_wp2
    go_region
    go_wp2
    clear x0 x1 x2 x3 x4 x5 x6 x7 x8 x9 x10 z0 z1 z2 z3 z4 z5 z6 z7 z8 z9 z10 z11 zf hgl hbl
    generalize (w1.setCell ⟨g, 10, none⟩ (.int .i64 (p.h1 - fa))).drew.drew = w2 at *
    obtain ⟨x0, x1, x2, x3, x4, x5, x6, x7, x8, x9, x10⟩ := HBox.all (h := (⟨fn, fa, 1, fu⟩ : Hd)) HBh2.out
    obtain ⟨z0, z1, z2, z3, z4, z5, z6, z7, z8, z9, z10, z11⟩ := PBox.all H2.out.blk
    have zf := block_free H2.out.blk
    have hgl := H2.out.lt
    have hbl := block_lt HBh2.out
    have hbs : base ≤ w2.heap.size := by have := H2.out.lo; omega
    have HO3 : Hid ((w2.drew.alloc (.cells #[.int .u8 fn.x0, .int .u8 fn.x1, .int .u8 fn.x2, .int .u8 fn.x3, .int .u8 fn.x4, .int .u8 fn.x5, .int .u8 fn.x6, .int .u8 fn.x7, .int .i64 fa, .int .i64 1, .int .i64 fu] 120)).ownsRow base 120 11 (.slice A n c) n (flatH p.held)) := H2.out.own.drew.alloc _
    have HRl : Hid (Rd (w2.drew.alloc (.cells #[.int .u8 fn.x0, .int .u8 fn.x1, .int .u8 fn.x2, .int .u8 fn.x3, .int .u8 fn.x4, .int .u8 fn.x5, .int .u8 fn.x6, .int .u8 fn.x7, .int .i64 fa, .int .i64 1, .int .i64 fu] 120)) (w2.heap.size + 1) 11 (some ⟨w2.heap.size, 0, none⟩) 1 (flatH [⟨fn, fa, 1, fu⟩])) := by
     have := Rd.newA (n := 1) (sz := 11) (xs := flatH [⟨fn, fa, 1, fu⟩]) w2.drew 120 #[.int .u8 fn.x0, .int .u8 fn.x1, .int .u8 fn.x2, .int .u8 fn.x3, .int .u8 fn.x4, .int .u8 fn.x5, .int .u8 fn.x6, .int .u8 fn.x7, .int .i64 fa, .int .i64 1, .int .i64 fu] rfl rfl
     simp at this
     exact this
    have HB3 : Hid ((w2.drew.alloc (.cells #[.int .u8 fn.x0, .int .u8 fn.x1, .int .u8 fn.x2, .int .u8 fn.x3, .int .u8 fn.x4, .int .u8 fn.x5, .int .u8 fn.x6, .int .u8 fn.x7, .int .i64 fa, .int .i64 1, .int .i64 fu] 120)).heap[g]? = some (.cells #[.int .u8 p.nm.x0, .int .u8 p.nm.x1, .int .u8 p.nm.x2, .int .u8 p.nm.x3, .int .u8 p.nm.x4, .int .u8 p.nm.x5, .int .u8 p.nm.x6, .int .u8 p.nm.x7, .int .i64 p.no, .int .i64 p.h0, .int .i64 (p.h1 - fa), .slice A n c] 85 (0, 0))) := block_alloc (w := w2.drew) H2.out.blk _
    have Hw3 : Hid (Below base w (w2.drew.alloc (.cells #[.int .u8 fn.x0, .int .u8 fn.x1, .int .u8 fn.x2, .int .u8 fn.x3, .int .u8 fn.x4, .int .u8 fn.x5, .int .u8 fn.x6, .int .u8 fn.x7, .int .i64 fa, .int .i64 1, .int .i64 fu] 120))) := Hw2.out.drew.alloc (by exact hbs) _
    go_region_law (refine step_append_rdg (w2.drew.alloc (.cells #[.int .u8 fn.x0, .int .u8 fn.x1, .int .u8 fn.x2, .int .u8 fn.x3, .int .u8 fn.x4, .int .u8 fn.x5, .int .u8 fn.x6, .int .u8 fn.x7, .int .i64 fa, .int .i64 1, .int .i64 fu] 120)) (by rfl) _ _ 83 (by rfl) base 120 i0 (.agg #[.int .u8 0, .int .u8 0, .int .u8 0, .int .u8 0, .int .u8 0, .int .u8 0, .int .u8 0, .int .u8 0, .int .i64 0, .int .i64 0, .int .i64 0]) 11 32 Tryz.underlying83 HI.out rfl (by decide) _ _ _ (by rfl) HO3.out (w2.heap.size + 1) (some ⟨w2.heap.size, 0, none⟩) 1 1 _ (by simp [Act.eval]) HRl.out (flatH_one _) (by omega) (by omega) (by simp; omega) ?_; go_must (intro v4 w4 ho4 hb4 hg4; obtain ⟨A4, c4, rfl⟩ := own_form ho4; have HB4 := Lib.hid (block_grown HB3.out hg4 (own_ne HO3.out HB3.out (by decide))); have q11 := block_cell HB4.out 11; have qf := block_free HB4.out; simp at q11; have HO4 := Lib.hid ho4; have Hw4 := Lib.hid (Hw3.out.trans hb4); clear ho4 hb4 hg4))
    all_goals
     go_wp2
     go_ret
     refine ⟨by rw [Hr.out]; rfl, fun _ => ⟨A4, n + 1, c4, ?_⟩, Hw4.out.setCell (by exact H2.out.lo) _⟩
     rw [Hr.out]
     refine ⟨?_, ?_, H2.out.lo⟩
     ·have := Joins.block_setCell (i := 11) HB4.out (.slice A4 (n + 1) c4)
      simp at this
      exact this
     ·have := own_set HO4.out HB4.out (by decide) 11 (.slice A4 (n + 1) c4)
      rw [← flatH_append] at this
      exact this
end Go.Proofs.YthhiookcknnmdaaGreat
