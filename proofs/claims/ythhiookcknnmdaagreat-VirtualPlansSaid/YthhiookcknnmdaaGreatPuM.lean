/- The walks of the inner functions of Free and Back (of a purse). Conditions: bounds. -/
import Derived.Test.YthhiookcknnmdaaGreatPuL
namespace Go.Proofs.YthhiookcknnmdaaGreat
open Go.RowKit Go.Lib

theorem DBox.all {d : D8} {w : World} {b : Nat} {T : TypeId} (hb : w.heap[b]? = some (.cells #[.int .u8 d.x0, .int .u8 d.x1, .int .u8 d.x2, .int .u8 d.x3, .int .u8 d.x4, .int .u8 d.x5, .int .u8 d.x6, .int .u8 d.x7] T (0, 0))) :
  w.cell? ⟨b, 0, none⟩ = some (.int .u8 d.x0) ∧ w.cell? ⟨b, 1, none⟩ = some (.int .u8 d.x1) ∧ w.cell? ⟨b, 2, none⟩ = some (.int .u8 d.x2) ∧ w.cell? ⟨b, 3, none⟩ = some (.int .u8 d.x3) ∧
  w.cell? ⟨b, 4, none⟩ = some (.int .u8 d.x4) ∧ w.cell? ⟨b, 5, none⟩ = some (.int .u8 d.x5) ∧ w.cell? ⟨b, 6, none⟩ = some (.int .u8 d.x6) ∧ w.cell? ⟨b, 7, none⟩ = some (.int .u8 d.x7) :=
 ⟨block_cell hb 0, block_cell hb 1, block_cell hb 2, block_cell hb 3, block_cell hb 4, block_cell hb 5, block_cell hb 6, block_cell hb 7⟩
theorem get_part_no {p : Pu} {n : D8} {over : Int} (h : placeL p.held n < 0) : (p.freeI n over).1 = 9 := by unfold Pu.freeI; rw [if_pos h]
theorem free_range {p : Pu} {n : D8} {over : Int} {k : Nat} (h : placeL p.held n = k) (h2 : over < 0 ∨ (p.held.getD k default).am < over) : (p.freeI n over).1 = 2 := by
 unfold Pu.freeI; rw [h, if_neg (by omega), Int.toNat_natCast, if_pos h2]
theorem free_yes {p : Pu} {n : D8} {over : Int} {k : Nat} (h : placeL p.held n = k) (h2 : ¬ over < 0) (h3 : ¬ (p.held.getD k default).am < over) : p.freeI n over = (0, p.part k over) := by
 unfold Pu.freeI; rw [h, if_neg (by omega), Int.toNat_natCast, if_neg (by omega)]
set_option maxRecDepth 100000 in
set_option maxHeartbeats 2000000 in
theorem free1_any (base g : Nat) (p : Pu) (A : Option Addr) (n c : Nat) (bd bo : Nat) (d : D8) (over : Int) (w : World) (hq : PuO base g p A n c w) (hc : p.check = 0) (hbd : w.heap[bd]? = some (.cells #[.int .u8 d.x0, .int .u8 d.x1, .int .u8 d.x2, .int .u8 d.x3, .int .u8 d.x4, .int .u8 d.x5, .int .u8 d.x6, .int .u8 d.x7] 27 (0, 0))) (hbo : w.cell? ⟨bo, 0, none⟩ = some (.int .i64 over)) (hol : bo < w.heap.size) :
  Calls Tryz.prog 141 #[.pointer (some ⟨g, 0, none⟩), .pointer (some ⟨bd, 0, none⟩), .pointer (some ⟨bo, 0, none⟩)] w (GivesQ base g w (p.freeI d over)) := by
 have H := Lib.hid hq
 have HBd := Lib.hid hbd
 obtain ⟨c1, c2, c3, c4, ⟨c5, _⟩, _⟩ := check_iff.1 hc
 have C2 := Lib.hid c2
 have C3 := Lib.hid c3
 have C5 := Lib.hid c5
 have HA := Lib.hid (hq.at_ (by omega) hq.cap)
 have Hl := Lib.hid hq.hlen
 have hn16 : n ≤ 16 := by rw [← Hl.out]; exact c4
 have Hbase : Hid (base ≤ w.heap.size) := by show _ ≤ _; have := hq.lo; have := hq.lt; omega
 obtain ⟨z0, z1, z2, z3, z4, z5, z6, z7, z8, z9, z10, z11⟩ := PBox.all hq.blk
 obtain ⟨x0, x1, x2, x3, x4, x5, x6, x7⟩ := DBox.all hbd
 have hbl := block_lt hbd
 have hgl := hq.lt
 clear hq hbd hc c1 c2 c3 c4 c5
 by_cases hp : placeL p.held d < 0
 ·have Hr := Lib.hid (get_part_no (over := over) hp)
  have q1 : decide (placeL p.held d < 0) = true := decide_eq_true hp
  clear hp
  go_enter Tryz.func141, Tryz.ntmps141
  go_wp2
  go_region_law (go_simp; go_at_call 142; go_must (refine (place_any p A n c d w.drew HA.out.drew).mono ?_; rintro e w1 ⟨rfl, hb1⟩; (try rw [Hk.out]); have H1 := Lib.hid (PuO.below H.out.drew hb1); have HBo1 := Lib.hid ((hb1.cell (p := ⟨bo, 0, none⟩) (by exact hol)).trans hbo); have Hw1 := Lib.hid ((Below.refl base w).drew.trans (hb1.mono (by exact Hbase.out))); clear hb1 x0 x1 x2 x3 x4 x5 x6 x7 z0 z1 z2 z3 z4 z5 z6 z7 z8 z9 z10 z11 hgl hbl hol hbo))
  all_goals
   go_wp2
   go_ret
   exact givesQ_no Hr.out (by decide) Hw1.out
 ·obtain ⟨k, hk⟩ : ∃ k : Nat, placeL p.held d = k := ⟨(placeL p.held d).toNat, by omega⟩
  have hkn : k < n := by have := (placeL_yes (l := p.held) (n := d) (by omega)).1; have := Hl.out; omega
  have Hk := Lib.hid hk
  have q1 : decide ((k : Int) < 0) = false := decide_eq_false (by omega)
  clear hp hk
  by_cases h2 : over < 0
  ·have Hr := Lib.hid (free_range Hk.out (.inl h2))
   have q2 : decide (over < 0) = true := decide_eq_true h2
   clear h2
   go_enter Tryz.func141, Tryz.ntmps141
   go_wp2
   go_region_law (go_simp; go_at_call 142; go_must (refine (place_any p A n c d w.drew HA.out.drew).mono ?_; rintro e w1 ⟨rfl, hb1⟩; (try rw [Hk.out]); have H1 := Lib.hid (PuO.below H.out.drew hb1); have HBo1 := Lib.hid ((hb1.cell (p := ⟨bo, 0, none⟩) (by exact hol)).trans hbo); have Hw1 := Lib.hid ((Below.refl base w).drew.trans (hb1.mono (by exact Hbase.out))); clear hb1 x0 x1 x2 x3 x4 x5 x6 x7 z0 z1 z2 z3 z4 z5 z6 z7 z8 z9 z10 z11 hgl hbl hol hbo))
   all_goals
    obtain ⟨b, o, rfl, hbB, y0, y1, y2, y3, y4, y5, y6, y7, y8, y9, y10⟩ := (Rd.of_own H1.out.own).hd hkn
    obtain ⟨z0, z1, z2, z3, z4, z5, z6, z7, z8, z9, z10, z11⟩ := PBox.all H1.out.blk
    have hgl := H1.out.lt
    have hbo := HBo1.out
    have hk0 : (0 : Int) ≤ (k : Int) := by omega
    have hki : (k : Int) < (n : Int) := by omega
    have Hok := Lib.hid (C5.out _ (mem_getD (show k < p.held.length by have := Hl.out; omega)))
    generalize hgen : p.held.getD k default = hh at *
    have Hgen := Lib.hid hgen
    clear hgen
    go_wp2
    go_region
    all_goals
     go_wp2
     go_ret
     exact givesQ_no Hr.out (by decide) Hw1.out.drew
  have q2 : decide (over < 0) = false := decide_eq_false h2
  by_cases h3 : (p.held.getD k default).am < over
  ·have Hr := Lib.hid (free_range Hk.out (.inr h3))
   have q3 : decide ((p.held.getD k default).am < over) = true := decide_eq_true h3
   clear h2 h3
   go_enter Tryz.func141, Tryz.ntmps141
   go_wp2
   go_region_law (go_simp; go_at_call 142; go_must (refine (place_any p A n c d w.drew HA.out.drew).mono ?_; rintro e w1 ⟨rfl, hb1⟩; (try rw [Hk.out]); have H1 := Lib.hid (PuO.below H.out.drew hb1); have HBo1 := Lib.hid ((hb1.cell (p := ⟨bo, 0, none⟩) (by exact hol)).trans hbo); have Hw1 := Lib.hid ((Below.refl base w).drew.trans (hb1.mono (by exact Hbase.out))); clear hb1 x0 x1 x2 x3 x4 x5 x6 x7 z0 z1 z2 z3 z4 z5 z6 z7 z8 z9 z10 z11 hgl hbl hol hbo))
   all_goals
    obtain ⟨b, o, rfl, hbB, y0, y1, y2, y3, y4, y5, y6, y7, y8, y9, y10⟩ := (Rd.of_own H1.out.own).hd hkn
    obtain ⟨z0, z1, z2, z3, z4, z5, z6, z7, z8, z9, z10, z11⟩ := PBox.all H1.out.blk
    have hgl := H1.out.lt
    have hbo := HBo1.out
    have hk0 : (0 : Int) ≤ (k : Int) := by omega
    have hki : (k : Int) < (n : Int) := by omega
    have Hok := Lib.hid (C5.out _ (mem_getD (show k < p.held.length by have := Hl.out; omega)))
    generalize hgen : p.held.getD k default = hh at *
    have Hgen := Lib.hid hgen
    clear hgen
    go_wp2
    go_region
    all_goals
     go_wp2
     go_ret
     exact givesQ_no Hr.out (by decide) Hw1.out.drew
  ·have Hr := Lib.hid (free_yes Hk.out h2 h3)
   have q3 : decide ((p.held.getD k default).am < over) = false := decide_eq_false h3
   have Ho : Hid (0 ≤ over ∧ over ≤ (p.held.getD k default).am) := by show _ ∧ _; omega
   clear h2 h3
   go_enter Tryz.func141, Tryz.ntmps141
   go_wp2
   go_region_law (go_simp; go_at_call 142; go_must (refine (place_any p A n c d w.drew HA.out.drew).mono ?_; rintro e w1 ⟨rfl, hb1⟩; (try rw [Hk.out]); have H1 := Lib.hid (PuO.below H.out.drew hb1); have HBo1 := Lib.hid ((hb1.cell (p := ⟨bo, 0, none⟩) (by exact hol)).trans hbo); have Hw1 := Lib.hid ((Below.refl base w).drew.trans (hb1.mono (by exact Hbase.out))); clear hb1 x0 x1 x2 x3 x4 x5 x6 x7 z0 z1 z2 z3 z4 z5 z6 z7 z8 z9 z10 z11 hgl hbl hol hbo))
   all_goals
    obtain ⟨b, o, rfl, hbB, y0, y1, y2, y3, y4, y5, y6, y7, y8, y9, y10⟩ := (Rd.of_own H1.out.own).hd hkn
    obtain ⟨z0, z1, z2, z3, z4, z5, z6, z7, z8, z9, z10, z11⟩ := PBox.all H1.out.blk
    have hgl := H1.out.lt
    have hbo := HBo1.out
    have hk0 : (0 : Int) ≤ (k : Int) := by omega
    have hki : (k : Int) < (n : Int) := by omega
    have Hok := Lib.hid (C5.out _ (mem_getD (show k < p.held.length by have := Hl.out; omega)))
    generalize hgen : p.held.getD k default = hh at *
    have Hgen := Lib.hid hgen
    clear hgen
    go_wp2
    go_region
    all_goals
     go_wp2_with fail
     refine (part_any base g p _ n c k over _ H1.out.drew hkn (by omega) C2.out C3.out (by rw [Hgen.out]; have := Hok.out.2.1; omega) (by rw [Hgen.out]; exact Ho.out) (by rw [Hgen.out]; exact Hok.out.1.2)).mono ?_
     rintro e w4 ⟨rfl, ⟨A4, n4, c4, hq4, _⟩, hb4⟩
     have H4 := Lib.hid hq4
     have Hw4 := Lib.hid (Hw1.out.drew.trans hb4)
     clear hq4 hb4
     go_wp2
     go_ret
     exact ⟨by rw [Hr.out]; rfl, fun _ => ⟨A4, n4, c4, by rw [Hr.out]; exact H4.out⟩, Hw4.out⟩
end Go.Proofs.YthhiookcknnmdaaGreat
