/- The walks of place and part of a purse. Conditions: bounds. -/
import Derived.Test.YthhiookcknnmdaaGreatPuH
import Derived.Test.YthhiookcknnmdaaGreatPuD
import Derived.Test.YthhiookcknnmdaaGreatAppend
import Derived.RegionTactic
import Derived.WalkMore
namespace Go.Proofs.YthhiookcknnmdaaGreat
open Go.RowKit Go.Lib

theorem place_upto {l : List Hd} {d : D8} {k : Nat} (hk : k < l.length) (h0 : ∀ j, j < k → eqI (l.getD j default).nm.L d.L = false) (h : eqI (l.getD k default).nm.L d.L = true) : placeL l d = k :=
 placeL_at hk (eqI_iff8.1 h) fun j hj e => by have := h0 j hj; rw [eqI_iff8.2 e] at this; cases this
theorem place_none {l : List Hd} {d : D8} (h0 : ∀ j, j < l.length → eqI (l.getD j default).nm.L d.L = false) : placeL l d = -1 := by
 have h1 : placeL l d < 0 := placeL_no.2 fun x hx e => by
  obtain ⟨k, hk, rfl⟩ := getD_mem hx
  have := h0 k hk; rw [eqI_iff8.2 e] at this; cases this
 have := placeL_lo l d
 omega
set_option maxRecDepth 100000 in
set_option maxHeartbeats 2000000 in
theorem place_any (p : Pu) (A : Option Addr) (n c : Nat) (d : D8) (w : World) (h : PuV.At p A n c w) :
  Calls Tryz.prog 142 #[.agg #[.int .u8 p.nm.x0, .int .u8 p.nm.x1, .int .u8 p.nm.x2, .int .u8 p.nm.x3, .int .u8 p.nm.x4, .int .u8 p.nm.x5, .int .u8 p.nm.x6, .int .u8 p.nm.x7, .int .i64 p.no, .int .i64 p.h0, .int .i64 p.h1, .slice A n c], .agg #[.int .u8 d.x0, .int .u8 d.x1, .int .u8 d.x2, .int .u8 d.x3, .int .u8 d.x4, .int .u8 d.x5, .int .u8 d.x6, .int .u8 d.x7]] w fun e w' => e = .returned (.int .i64 (placeL p.held d)) ∧ Below w.heap.size w w' := by
 have H := Lib.hid h
 have Hl := Lib.hid h.rd.hlen
 have hsm := h.small
 clear h
 have HD : Hid (((w.alloc (.cells #[.int .u8 p.nm.x0, .int .u8 p.nm.x1, .int .u8 p.nm.x2, .int .u8 p.nm.x3, .int .u8 p.nm.x4, .int .u8 p.nm.x5, .int .u8 p.nm.x6, .int .u8 p.nm.x7, .int .i64 p.no, .int .i64 p.h0, .int .i64 p.h1, .slice A n c] 85)).alloc (.cells #[.int .u8 d.x0, .int .u8 d.x1, .int .u8 d.x2, .int .u8 d.x3, .int .u8 d.x4, .int .u8 d.x5, .int .u8 d.x6, .int .u8 d.x7] 27)).heap[w.heap.size + 1]? = some (.cells #[.int .u8 d.x0, .int .u8 d.x1, .int .u8 d.x2, .int .u8 d.x3, .int .u8 d.x4, .int .u8 d.x5, .int .u8 d.x6, .int .u8 d.x7] 27 (0, 0))) := alloc_at (by simp)
 have heq := eql_dig
 go_enter Tryz.func142, Tryz.ntmps142
 go_wp2; go_step3; go_wp2; go_step3; go_wp2
 go_loopw [5, 11] (fun a5 i wr => ∃ k : Nat, k ≤ n ∧ a5 = .int .i64 (-1) ∧ i = .int .i64 k ∧ (∀ j, j < k → eqI (p.held.getD j default).nm.L d.L = false) ∧ wr.heap[w.heap.size + 1]? = some (.cells #[.int .u8 d.x0, .int .u8 d.x1, .int .u8 d.x2, .int .u8 d.x3, .int .u8 d.x4, .int .u8 d.x5, .int .u8 d.x6, .int .u8 d.x7] 27 (0, 0)) ∧ Below w.heap.size w wr ∧ w.heap.size + 1 < wr.heap.size) (fun _ i _ => n - (intOf i).toNat)
 case atStart => exact ⟨0, by omega, rfl, rfl, fun j hj => absurd hj (by omega), HD.out, below_two _ _ _, by simp⟩
 case round =>
  obtain ⟨k, hk, rfl, rfl, h0, hD, hbel, hsz⟩ := hrel
  have H0 := Lib.hid h0; have HD' := Lib.hid hD; have Hbel := Lib.hid hbel
  have z0 := block_cell hD 0; have z1 := block_cell hD 1; have z2 := block_cell hD 2; have z3 := block_cell hD 3; have z4 := block_cell hD 4; have z5 := block_cell hD 5; have z6 := block_cell hD 6; have z7 := block_cell hD 7
  simp at z0 z1 z2 z3 z4 z5 z6 z7
  clear h0 hD
  by_cases hlt : k < n
  ·obtain ⟨b, o, rfl, hbB, x0, x1, x2, x3, x4, x5, x6, x7, x8, x9, x10⟩ := (H.out.rd.up hbel (Nat.le_refl _)).hd hlt
   have hd1 : decide ((k : Int) < (n : Int)) = true := decide_eq_true (by omega)
   have hki : (k : Int) < (n : Int) := by omega
   generalize hhk : p.held.getD k default = h at *
   have Hhk := Lib.hid hhk
   clear hhk
   have HDa := Lib.hid (block_alloc HD'.out (.cells #[.int .u8 h.nm.x0, .int .u8 h.nm.x1, .int .u8 h.nm.x2, .int .u8 h.nm.x3, .int .u8 h.nm.x4, .int .u8 h.nm.x5, .int .u8 h.nm.x6, .int .u8 h.nm.x7, .int .i64 h.am, .int .i64 h.fr, .int .i64 h.un] 120))
   have Hbel2 := Lib.hid (Hbel.out.alloc hbel.size (.cells #[.int .u8 h.nm.x0, .int .u8 h.nm.x1, .int .u8 h.nm.x2, .int .u8 h.nm.x3, .int .u8 h.nm.x4, .int .u8 h.nm.x5, .int .u8 h.nm.x6, .int .u8 h.nm.x7, .int .i64 h.am, .int .i64 h.fr, .int .i64 h.un] 120))
   clear hbel
   by_cases hE : eqI h.nm.L d.L = true
   ·have c5 : eqI [(h.nm.x0 : Int), (h.nm.x1 : Int), (h.nm.x2 : Int), (h.nm.x3 : Int), (h.nm.x4 : Int), (h.nm.x5 : Int), (h.nm.x6 : Int), (h.nm.x7 : Int)] [(d.x0 : Int), (d.x1 : Int), (d.x2 : Int), (d.x3 : Int), (d.x4 : Int), (d.x5 : Int), (d.x6 : Int), (d.x7 : Int)] = true := hE
    have Hr : Hid (placeL p.held d = k) := place_upto (by have := Hl.out; omega) H0.out (by rw [Hhk.out]; exact hE)
    clear hE
    go_wp2
    try rw [Exit.noGoto_ret]
    go_ret
    exact ⟨by rw [Hr.out]; rfl, Hbel2.out⟩
   ·have hE' : eqI h.nm.L d.L = false := by simpa using hE
    have c5 : eqI [(h.nm.x0 : Int), (h.nm.x1 : Int), (h.nm.x2 : Int), (h.nm.x3 : Int), (h.nm.x4 : Int), (h.nm.x5 : Int), (h.nm.x6 : Int), (h.nm.x7 : Int)] [(d.x0 : Int), (d.x1 : Int), (d.x2 : Int), (d.x3 : Int), (d.x4 : Int), (d.x5 : Int), (d.x6 : Int), (d.x7 : Int)] = false := hE'
    have HE := Lib.hid hE'
    clear hE hE'
    go_wp2
    go_roundw
    case rel =>
     refine ⟨k + 1, by omega, rfl, by go_num, fun j hj => ?_, HDa.out, Hbel2.out, by simp; omega⟩
     rcases Nat.lt_or_ge j k with h1 | h1
     ·exact H0.out j h1
     ·obtain rfl : j = k := by omega
      rw [Hhk.out]; exact HE.out
    case measure => simp [intOf]; omega
  ·have hkn : k = n := by omega
   subst hkn
   have hd1 : decide ((k : Int) < (k : Int)) = false := decide_eq_false (by omega)
   have Hr : Hid (placeL p.held d = -1) := place_none (by rw [Hl.out]; exact H0.out)
   clear hlt hbel
   go_wp2
   try rw [Exit.noGoto_ret]
   go_ret
   exact ⟨by rw [Hr.out]; rfl, Hbel.out⟩
theorem own_set {w : World} {base : Nat} {e t : TypeId} {sz n g : Nat} {v : Value} {xs : List Value} {cs : Array Value} {fz : Nat × Nat} (h : w.ownsRow base e sz v n xs) (hg : w.heap[g]? = some (.cells cs t fz)) (hne : e ≠ t) (i : Nat) (u : Value) : (w.setCell ⟨g, i, none⟩ u).ownsRow base e sz v n xs :=
 h.kept (pgrown_set g i u) (.inr fun e => own_ne h hg hne e.symm)
theorem sdel_any (A : Option Addr) (n c k : Nat) (l : List Hd) (base : Nat) (w : World) (ho : w.ownsRow base 120 11 (.slice A n c) n (flatH l)) (hk : k < n) (hbase : base ≤ w.heap.size) :
  Calls Tryz.prog 168 #[.slice A n c, .int .i64 k, .int .i64 ((k : Int) + 1)] w fun e w' => e = .returned (.slice A (n - 1) c) ∧ w'.ownsRow base 120 11 (.slice A (n - 1) c) (n - 1) (flatH (outL l k)) ∧ Below base w w' ∧ w.grownBy w' (Value.slice A n c).ownBlock := by
 obtain ⟨m, rfl⟩ : ∃ m, n = k + 1 + m := ⟨n - (k + 1), by omega⟩
 rcases ho.2 with ⟨_, h2⟩ | ⟨g, cap, cur, hv, hb, hg, hn, hm, hcs, hx⟩
 ·omega
 ·injection hv with h1 h2 h3
  subst h1; subst h3
  refine (sdel_row g c k m cur l base w hg hb hn hm hcs hx).mono ?_
  rintro e w' ⟨rfl, ho2, hg2⟩
  rw [show k + 1 + m - 1 = k + m by omega]
  exact ⟨rfl, ho2, below_of_grown hg2 hbase (fun j hj => by injection hj with hj; omega), hg2⟩
structure PuO (base g : Nat) (p : Pu) (A : Option Addr) (n c : Nat) (w : World) : Prop where
 blk : w.heap[g]? = some (.cells #[.int .u8 p.nm.x0, .int .u8 p.nm.x1, .int .u8 p.nm.x2, .int .u8 p.nm.x3, .int .u8 p.nm.x4, .int .u8 p.nm.x5, .int .u8 p.nm.x6, .int .u8 p.nm.x7, .int .i64 p.no, .int .i64 p.h0, .int .i64 p.h1, .slice A n c] 85 (0, 0))
 own : w.ownsRow base 120 11 (.slice A n c) n (flatH p.held)
 lo : base ≤ g
theorem PuO.hlen {base g n c : Nat} {p : Pu} {A : Option Addr} {w : World} (h : PuO base g p A n c w) : p.held.length = n := by have := h.own.1; rw [flatH_len] at this; omega
theorem PuO.lt {base g n c : Nat} {p : Pu} {A : Option Addr} {w : World} (h : PuO base g p A n c w) : g < w.heap.size := block_lt h.blk
set_option maxRecDepth 100000 in
set_option maxHeartbeats 2000000 in
theorem part_any (base g : Nat) (p : Pu) (A : Option Addr) (n c k : Nat) (over : Int) (w : World) (h : PuO base g p A n c w) (hk : k < n) (hn : n ≤ 1000000)
  (h0 : 0 ≤ p.h0 ∧ p.h0 ≤ 1125899906842624) (h1 : 0 ≤ p.h1 ∧ p.h1 ≤ 1125899906842624) (hfr : (p.held.getD k default).fr = 0 ∨ (p.held.getD k default).fr = 1)
  (ho : 0 ≤ over ∧ over ≤ (p.held.getD k default).am) (ha : (p.held.getD k default).am ≤ 1125899906842624) :
  Calls Tryz.prog 143 #[.pointer (some ⟨g, 0, none⟩), .int .i64 k, .int .i64 over] w fun e w' => e = .returned (.tuple #[]) ∧ (∃ A' n' c', PuO base g (p.part k over) A' n' c' w' ∧ n' ≤ n) ∧ Below base w w' := by
 have Hpart := Lib.hid (part_eq (p := p) (over := over) hfr)
 have H := Lib.hid h
 have hrd := Rd.of_own h.own
 obtain ⟨b, o, rfl, hbB, x0, x1, x2, x3, x4, x5, x6, x7, x8, x9, x10⟩ := hrd.hd hk
 obtain ⟨z0, z1, z2, z3, z4, z5, z6, z7, z8, z9, z10, z11⟩ := PBox.all h.blk
 have zf := block_free h.blk
 have hgl := h.lt
 have hlo := h.lo
 clear h hrd
 generalize hh : p.held.getD k default = h at *
 have Hh := Lib.hid hh
 clear hh
 obtain ⟨u0, u1⟩ := h0
 obtain ⟨u2, u3⟩ := h1
 obtain ⟨u4, u5⟩ := ho
 obtain ⟨nm, am, fr, un⟩ := h
 simp only at *
 have hki : (k : Int) < (n : Int) := by omega
 have HB0 := Lib.hid (block_alloc H.out.blk (.cells #[.int .u8 nm.x0, .int .u8 nm.x1, .int .u8 nm.x2, .int .u8 nm.x3, .int .u8 nm.x4, .int .u8 nm.x5, .int .u8 nm.x6, .int .u8 nm.x7, .int .i64 am, .int .i64 fr, .int .i64 un] 120))
 have HO0 := Lib.hid (H.out.own.alloc (.cells #[.int .u8 nm.x0, .int .u8 nm.x1, .int .u8 nm.x2, .int .u8 nm.x3, .int .u8 nm.x4, .int .u8 nm.x5, .int .u8 nm.x6, .int .u8 nm.x7, .int .i64 am, .int .i64 fr, .int .i64 un] 120))
 rcases hfr with rfl | rfl
 ·rw [if_pos rfl, if_pos rfl] at Hpart
  have HB2 : Hid (((((w.setCell ⟨g, 10, none⟩ (.int .i64 (p.h1 + over))).setCell ⟨g, 9, none⟩ (.int .i64 (p.h0 + (am - over)))).alloc (.cells #[.int .u8 nm.x0, .int .u8 nm.x1, .int .u8 nm.x2, .int .u8 nm.x3, .int .u8 nm.x4, .int .u8 nm.x5, .int .u8 nm.x6, .int .u8 nm.x7, .int .i64 am, .int .i64 0, .int .i64 un] 120)).drew.drew).heap[g]? = some (.cells #[.int .u8 p.nm.x0, .int .u8 p.nm.x1, .int .u8 p.nm.x2, .int .u8 p.nm.x3, .int .u8 p.nm.x4, .int .u8 p.nm.x5, .int .u8 p.nm.x6, .int .u8 p.nm.x7, .int .i64 p.no, .int .i64 (p.h0 + (am - over)), .int .i64 (p.h1 + over), .slice (some ⟨b, o, none⟩) n c] 85 (0, 0))) := by
   have h1 := Joins.block_setCell (i := 10) H.out.blk (.int .i64 (p.h1 + over))
   have h2 := Joins.block_setCell (i := 9) h1 (.int .i64 (p.h0 + (am - over)))
   exact block_alloc (by simpa using h2) _
  have HO2 : Hid (((((w.setCell ⟨g, 10, none⟩ (.int .i64 (p.h1 + over))).setCell ⟨g, 9, none⟩ (.int .i64 (p.h0 + (am - over)))).alloc (.cells #[.int .u8 nm.x0, .int .u8 nm.x1, .int .u8 nm.x2, .int .u8 nm.x3, .int .u8 nm.x4, .int .u8 nm.x5, .int .u8 nm.x6, .int .u8 nm.x7, .int .i64 am, .int .i64 0, .int .i64 un] 120)).drew.drew).ownsRow base 120 11 (.slice (some ⟨b, o, none⟩) n c) n (flatH p.held)) := by
   have h1 := Joins.block_setCell (i := 10) H.out.blk (.int .i64 (p.h1 + over))
   exact ((own_set (own_set H.out.own H.out.blk (by decide) _ _) h1 (by decide) _ _).alloc _)
  have HW2 : Hid (Below base w ((((w.setCell ⟨g, 10, none⟩ (.int .i64 (p.h1 + over))).setCell ⟨g, 9, none⟩ (.int .i64 (p.h0 + (am - over)))).alloc (.cells #[.int .u8 nm.x0, .int .u8 nm.x1, .int .u8 nm.x2, .int .u8 nm.x3, .int .u8 nm.x4, .int .u8 nm.x5, .int .u8 nm.x6, .int .u8 nm.x7, .int .i64 am, .int .i64 0, .int .i64 un] 120)).drew.drew)) :=
   (((((Below.refl base w).setCell (by exact H.out.lo) _).setCell (by exact H.out.lo) _).alloc (by simp; omega) _).drew).drew
  have Hbase : Hid (base ≤ w.heap.size) := by show _ ≤ _; have := H.out.lo; omega
  clear hlo
  go_enter Tryz.func143, Tryz.ntmps143
  go_wp2
  go_region
  go_wp2
  go_region
  go_wp2_with fail
  refine (sdel_any (some ⟨b, o, none⟩) n c k p.held base _ HO2.out hk (by simpa using (Nat.le_succ_of_le Hbase.out))).mono ?_
  generalize ((((w.setCell ⟨g, 10, none⟩ (.int .i64 (p.h1 + over))).setCell ⟨g, 9, none⟩ (.int .i64 (p.h0 + (am - over)))).alloc (.cells #[.int .u8 nm.x0, .int .u8 nm.x1, .int .u8 nm.x2, .int .u8 nm.x3, .int .u8 nm.x4, .int .u8 nm.x5, .int .u8 nm.x6, .int .u8 nm.x7, .int .i64 am, .int .i64 0, .int .i64 un] 120)).drew.drew) = w2 at *
  rintro e w4 ⟨rfl, ho4, hb4, hg4⟩
  have hB4 := block_grown HB2.out hg4 (own_ne HO2.out HB2.out (by decide))
  have q11 := block_cell hB4 11
  have qf := block_free hB4
  simp at q11
  have HB4 := Lib.hid hB4
  have HO4 := Lib.hid ho4
  have HW4 := Lib.hid (HW2.out.trans (hb4.mono (Nat.le_refl _)))
  have Hhl := Lib.hid H.out.hlen
  clear hB4 ho4 hb4 hg4
  go_wp2
  go_end0
  refine ⟨rfl, ⟨some ⟨b, o, none⟩, n - 1, c, ⟨?_, ?_, H.out.lo⟩, by omega⟩, ?_⟩
  ·rw [Hpart.out]
   have := Joins.block_setCell (i := 11) HB4.out (.slice (some ⟨b, o, none⟩) (n - 1) c)
   simpa using this
  ·rw [Hpart.out]
   exact own_set HO4.out HB4.out (by decide) _ _
  ·exact HW4.out.setCell (by exact H.out.lo) _
 ·rw [if_neg (by decide), if_neg (by decide)] at Hpart
  have HB2 : Hid (((((w.setCell ⟨g, 9, none⟩ (.int .i64 (p.h0 + over))).setCell ⟨g, 10, none⟩ (.int .i64 (p.h1 + (am - over)))).alloc (.cells #[.int .u8 nm.x0, .int .u8 nm.x1, .int .u8 nm.x2, .int .u8 nm.x3, .int .u8 nm.x4, .int .u8 nm.x5, .int .u8 nm.x6, .int .u8 nm.x7, .int .i64 am, .int .i64 1, .int .i64 un] 120)).drew.drew).heap[g]? = some (.cells #[.int .u8 p.nm.x0, .int .u8 p.nm.x1, .int .u8 p.nm.x2, .int .u8 p.nm.x3, .int .u8 p.nm.x4, .int .u8 p.nm.x5, .int .u8 p.nm.x6, .int .u8 p.nm.x7, .int .i64 p.no, .int .i64 (p.h0 + over), .int .i64 (p.h1 + (am - over)), .slice (some ⟨b, o, none⟩) n c] 85 (0, 0))) := by
   have h1 := Joins.block_setCell (i := 9) H.out.blk (.int .i64 (p.h0 + over))
   have h2 := Joins.block_setCell (i := 10) h1 (.int .i64 (p.h1 + (am - over)))
   exact block_alloc (by simpa using h2) _
  have HO2 : Hid (((((w.setCell ⟨g, 9, none⟩ (.int .i64 (p.h0 + over))).setCell ⟨g, 10, none⟩ (.int .i64 (p.h1 + (am - over)))).alloc (.cells #[.int .u8 nm.x0, .int .u8 nm.x1, .int .u8 nm.x2, .int .u8 nm.x3, .int .u8 nm.x4, .int .u8 nm.x5, .int .u8 nm.x6, .int .u8 nm.x7, .int .i64 am, .int .i64 1, .int .i64 un] 120)).drew.drew).ownsRow base 120 11 (.slice (some ⟨b, o, none⟩) n c) n (flatH p.held)) := by
   have h1 := Joins.block_setCell (i := 9) H.out.blk (.int .i64 (p.h0 + over))
   exact ((own_set (own_set H.out.own H.out.blk (by decide) _ _) h1 (by decide) _ _).alloc _)
  have HW2 : Hid (Below base w ((((w.setCell ⟨g, 9, none⟩ (.int .i64 (p.h0 + over))).setCell ⟨g, 10, none⟩ (.int .i64 (p.h1 + (am - over)))).alloc (.cells #[.int .u8 nm.x0, .int .u8 nm.x1, .int .u8 nm.x2, .int .u8 nm.x3, .int .u8 nm.x4, .int .u8 nm.x5, .int .u8 nm.x6, .int .u8 nm.x7, .int .i64 am, .int .i64 1, .int .i64 un] 120)).drew.drew)) :=
   (((((Below.refl base w).setCell (by exact H.out.lo) _).setCell (by exact H.out.lo) _).alloc (by simp; omega) _).drew).drew
  have Hbase : Hid (base ≤ w.heap.size) := by show _ ≤ _; have := H.out.lo; omega
  clear hlo
  go_enter Tryz.func143, Tryz.ntmps143
  go_wp2
  go_region
  go_wp2
  go_region
  go_wp2_with fail
  refine (sdel_any (some ⟨b, o, none⟩) n c k p.held base _ HO2.out hk (by simpa using (Nat.le_succ_of_le Hbase.out))).mono ?_
  generalize ((((w.setCell ⟨g, 9, none⟩ (.int .i64 (p.h0 + over))).setCell ⟨g, 10, none⟩ (.int .i64 (p.h1 + (am - over)))).alloc (.cells #[.int .u8 nm.x0, .int .u8 nm.x1, .int .u8 nm.x2, .int .u8 nm.x3, .int .u8 nm.x4, .int .u8 nm.x5, .int .u8 nm.x6, .int .u8 nm.x7, .int .i64 am, .int .i64 1, .int .i64 un] 120)).drew.drew) = w2 at *
  rintro e w4 ⟨rfl, ho4, hb4, hg4⟩
  have hB4 := block_grown HB2.out hg4 (own_ne HO2.out HB2.out (by decide))
  have q11 := block_cell hB4 11
  have qf := block_free hB4
  simp at q11
  have HB4 := Lib.hid hB4
  have HO4 := Lib.hid ho4
  have HW4 := Lib.hid (HW2.out.trans (hb4.mono (Nat.le_refl _)))
  have Hhl := Lib.hid H.out.hlen
  clear hB4 ho4 hb4 hg4
  go_wp2
  go_end0
  refine ⟨rfl, ⟨some ⟨b, o, none⟩, n - 1, c, ⟨?_, ?_, H.out.lo⟩, by omega⟩, ?_⟩
  ·rw [Hpart.out]
   have := Joins.block_setCell (i := 11) HB4.out (.slice (some ⟨b, o, none⟩) (n - 1) c)
   simpa using this
  ·rw [Hpart.out]
   exact own_set HO4.out HB4.out (by decide) _ _
  ·exact HW4.out.setCell (by exact H.out.lo) _
end Go.Proofs.YthhiookcknnmdaaGreat
