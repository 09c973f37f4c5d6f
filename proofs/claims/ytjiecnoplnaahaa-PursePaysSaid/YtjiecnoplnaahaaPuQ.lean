/- The walk of PursePays. Conditions: bounds. -/
import Derived.Test.YtjiecnoplnaahaaPuQ0
import Derived.Test.YtjiecnoplnaahaaPuQ1
import Derived.Test.YtjiecnoplnaahaaPuT0
import Derived.Deep.RegionHeld3
import Derived.IntWalk
namespace Go.Proofs.Ytjiecnoplnaahaa
open Go.RowKit Go.Lib



theorem psq_below {w w' : World} {gx g8 g9 g10 : Nat} {p : Pu} {A : Option Addr} {n c : Nat} {a0 a1 a2 b0 b1' b2' d0 d1 d2 : Int} (hb : Below w.heap.size w w') (hx : gx < w.heap.size) (h8 : g8 < w.heap.size) (h9 : g9 < w.heap.size) (h10 : g10 < w.heap.size) (h : (w.cell? ⟨gx, 0, none⟩ = some (.int .u8 (p.nm.x0 : Int)) ∧ w.cell? ⟨gx, 1, none⟩ = some (.int .u8 (p.nm.x1 : Int)) ∧ w.cell? ⟨gx, 2, none⟩ = some (.int .u8 (p.nm.x2 : Int)) ∧ w.cell? ⟨gx, 3, none⟩ = some (.int .u8 (p.nm.x3 : Int)) ∧ w.cell? ⟨gx, 4, none⟩ = some (.int .u8 (p.nm.x4 : Int)) ∧ w.cell? ⟨gx, 5, none⟩ = some (.int .u8 (p.nm.x5 : Int)) ∧ w.cell? ⟨gx, 6, none⟩ = some (.int .u8 (p.nm.x6 : Int)) ∧ w.cell? ⟨gx, 7, none⟩ = some (.int .u8 (p.nm.x7 : Int)) ∧ w.cell? ⟨gx, 8, none⟩ = some (.int .i64 p.no) ∧ w.cell? ⟨gx, 9, none⟩ = some (.int .i64 p.h0) ∧ w.cell? ⟨gx, 10, none⟩ = some (.int .i64 p.h1) ∧ w.cell? ⟨gx, 11, none⟩ = some (.slice A n c)) ∧ (w.cell? ⟨g8, 0, none⟩ = some (.int .i64 a0) ∧ w.cell? ⟨g8, 1, none⟩ = some (.int .i64 a1) ∧ w.cell? ⟨g8, 2, none⟩ = some (.int .i64 a2)) ∧ (w.cell? ⟨g9, 0, none⟩ = some (.int .i64 b0) ∧ w.cell? ⟨g9, 1, none⟩ = some (.int .i64 b1') ∧ w.cell? ⟨g9, 2, none⟩ = some (.int .i64 b2')) ∧ (w.cell? ⟨g10, 0, none⟩ = some (.int .i64 d0) ∧ w.cell? ⟨g10, 1, none⟩ = some (.int .i64 d1) ∧ w.cell? ⟨g10, 2, none⟩ = some (.int .i64 d2))) :
    (w'.cell? ⟨gx, 0, none⟩ = some (.int .u8 (p.nm.x0 : Int)) ∧ w'.cell? ⟨gx, 1, none⟩ = some (.int .u8 (p.nm.x1 : Int)) ∧ w'.cell? ⟨gx, 2, none⟩ = some (.int .u8 (p.nm.x2 : Int)) ∧ w'.cell? ⟨gx, 3, none⟩ = some (.int .u8 (p.nm.x3 : Int)) ∧ w'.cell? ⟨gx, 4, none⟩ = some (.int .u8 (p.nm.x4 : Int)) ∧ w'.cell? ⟨gx, 5, none⟩ = some (.int .u8 (p.nm.x5 : Int)) ∧ w'.cell? ⟨gx, 6, none⟩ = some (.int .u8 (p.nm.x6 : Int)) ∧ w'.cell? ⟨gx, 7, none⟩ = some (.int .u8 (p.nm.x7 : Int)) ∧ w'.cell? ⟨gx, 8, none⟩ = some (.int .i64 p.no) ∧ w'.cell? ⟨gx, 9, none⟩ = some (.int .i64 p.h0) ∧ w'.cell? ⟨gx, 10, none⟩ = some (.int .i64 p.h1) ∧ w'.cell? ⟨gx, 11, none⟩ = some (.slice A n c)) ∧ (w'.cell? ⟨g8, 0, none⟩ = some (.int .i64 a0) ∧ w'.cell? ⟨g8, 1, none⟩ = some (.int .i64 a1) ∧ w'.cell? ⟨g8, 2, none⟩ = some (.int .i64 a2)) ∧ (w'.cell? ⟨g9, 0, none⟩ = some (.int .i64 b0) ∧ w'.cell? ⟨g9, 1, none⟩ = some (.int .i64 b1') ∧ w'.cell? ⟨g9, 2, none⟩ = some (.int .i64 b2')) ∧ (w'.cell? ⟨g10, 0, none⟩ = some (.int .i64 d0) ∧ w'.cell? ⟨g10, 1, none⟩ = some (.int .i64 d1) ∧ w'.cell? ⟨g10, 2, none⟩ = some (.int .i64 d2)) := by
  have k1 := fun i => hb.cell (p := ⟨gx, i, none⟩) hx
  have k2 := fun i => hb.cell (p := ⟨g8, i, none⟩) h8
  have k3 := fun i => hb.cell (p := ⟨g9, i, none⟩) h9
  have k4 := fun i => hb.cell (p := ⟨g10, i, none⟩) h10
  simp only [k1, k2, k3, k4]
  exact h
set_option maxRecDepth 100000 in
set_option maxHeartbeats 4000000 in
theorem pursePays_any (p : Pu) (A : Option Addr) (n c : Nat) (now later : Int) (w : World) (hr : Rd w w.heap.size 11 A n (flatH p.held)) (hcap : n ≤ c) :
    Calls Try.prog 3 #[.agg #[.int .u8 (p.nm.x0 : Int), .int .u8 (p.nm.x1 : Int), .int .u8 (p.nm.x2 : Int), .int .u8 (p.nm.x3 : Int), .int .u8 (p.nm.x4 : Int), .int .u8 (p.nm.x5 : Int), .int .u8 (p.nm.x6 : Int), .int .u8 (p.nm.x7 : Int), .int .i64 p.no, .int .i64 p.h0, .int .i64 p.h1, .slice A n c], .int .i64 now, .int .i64 later] w fun e w' => e = .returned (.bool true) ∧ Below w.heap.size w w' := by
  by_cases h40 : 40 < n
  · have b1 : decide (40 < n) = true := decide_eq_true h40
    clear hr hcap h40
    go_enter Try.func3, Try.ntmps3
    go_wp2_with (first | (go_at_call 11; refine (great_any p A n c _).mono ?_; rintro e w1 ⟨rfl, hb1⟩; have Hb1 := Lib.hid ((below_one w _).trans (hb1.mono (by simp))); clear hb1) | (go_at_call 12; refine (told_any _).mono ?_; rintro e w2 ⟨rfl, hb2⟩; have Hb2 := Lib.hid (Hb1.out.trans (hb2.mono Hb1.out.size)); clear hb2))
    go_ret
    exact ⟨rfl, Hb2.out⟩
  have b1 : decide (40 < n) = false := decide_eq_false h40
  have h : PuV.At p A n c w := ⟨hr, hcap, by omega⟩
  clear hr hcap
  by_cases hl : later < now
  · have b2 : decide (later < now) = true := decide_eq_true hl
    clear h h40 hl
    go_enter Try.func3, Try.ntmps3
    go_wp2_with (first | (go_at_call 11; refine (great_any p A n c _).mono ?_; rintro e w1 ⟨rfl, hb1⟩; have Hb1 := Lib.hid ((below_one w _).trans (hb1.mono (by simp))); clear hb1) | (go_at_call 12; refine (told_any _).mono ?_; rintro e w2 ⟨rfl, hb2⟩; have Hb2 := Lib.hid (Hb1.out.trans (hb2.mono Hb1.out.size)); clear hb2))
    go_ret
    exact ⟨rfl, Hb2.out⟩
  have b2 : decide (later < now) = false := decide_eq_false hl
  have HX := Lib.hid (heap_alloc_new w (.cells #[.int .u8 (p.nm.x0 : Int), .int .u8 (p.nm.x1 : Int), .int .u8 (p.nm.x2 : Int), .int .u8 (p.nm.x3 : Int), .int .u8 (p.nm.x4 : Int), .int .u8 (p.nm.x5 : Int), .int .u8 (p.nm.x6 : Int), .int .u8 (p.nm.x7 : Int), .int .i64 p.no, .int .i64 p.h0, .int .i64 p.h1, .slice A n c] 26))
  have HA := Lib.hid (h.up (below_one w (.cells #[.int .u8 (p.nm.x0 : Int), .int .u8 (p.nm.x1 : Int), .int .u8 (p.nm.x2 : Int), .int .u8 (p.nm.x3 : Int), .int .u8 (p.nm.x4 : Int), .int .u8 (p.nm.x5 : Int), .int .u8 (p.nm.x6 : Int), .int .u8 (p.nm.x7 : Int), .int .i64 p.no, .int .i64 p.h0, .int .i64 p.h1, .slice A n c] 26)))
  have Hl := Lib.hid h.rd.hlen
  have Hlaw := Lib.hid (pays_law p now later (by omega))
  clear h hl
  go_enter Try.func3, Try.ntmps3
  go_wp2_with (go_at_call 11; refine (great_any p A n c _).mono ?_; rintro e w1 ⟨rfl, hb1⟩; have HX1 := Lib.hid (block_below HX.out hb1 (by simp)); have HA1 := Lib.hid (HA.out.up hb1); have Hb1 := Lib.hid ((below_one w _).trans (hb1.mono (by simp))); clear hb1; obtain ⟨z0, z1, z2, z3, z4, z5, z6, z7, z8, z9, z10, z11⟩ := PBox.all HX1.out)
  refine ((own_any p A n c w1 HA1.out).mono fun _ _ h => atPu h (by have := Hl.out; omega)).mono ?_
  rintro e w2 ⟨A2, n2, c2, rfl, ha2, hb2⟩
  clear z0 z1 z2 z3 z4 z5 z6 z7 z8 z9 z10 z11
  have ha2' := ha2.up (below_one w2 (.cells #[.int .u8 (p.nm.x0 : Int), .int .u8 (p.nm.x1 : Int), .int .u8 (p.nm.x2 : Int), .int .u8 (p.nm.x3 : Int), .int .u8 (p.nm.x4 : Int), .int .u8 (p.nm.x5 : Int), .int .u8 (p.nm.x6 : Int), .int .u8 (p.nm.x7 : Int), .int .i64 p.no, .int .i64 p.h0, .int .i64 p.h1, .slice A2 n2 c2] 32))
  have HA2 := Lib.hid (ha2.up (below_one w2 (.cells #[.int .u8 (p.nm.x0 : Int), .int .u8 (p.nm.x1 : Int), .int .u8 (p.nm.x2 : Int), .int .u8 (p.nm.x3 : Int), .int .u8 (p.nm.x4 : Int), .int .u8 (p.nm.x5 : Int), .int .u8 (p.nm.x6 : Int), .int .u8 (p.nm.x7 : Int), .int .i64 p.no, .int .i64 p.h0, .int .i64 p.h1, .slice A2 n2 c2] 32))).drew
  have HX2 := Lib.hid (heap_alloc_new w2 (.cells #[.int .u8 (p.nm.x0 : Int), .int .u8 (p.nm.x1 : Int), .int .u8 (p.nm.x2 : Int), .int .u8 (p.nm.x3 : Int), .int .u8 (p.nm.x4 : Int), .int .u8 (p.nm.x5 : Int), .int .u8 (p.nm.x6 : Int), .int .u8 (p.nm.x7 : Int), .int .i64 p.no, .int .i64 p.h0, .int .i64 p.h1, .slice A2 n2 c2] 32))
  have Hb2 := Lib.hid ((Hb1.out.trans (hb2.mono Hb1.out.size)).alloc (Nat.le_trans Hb1.out.size hb2.size) (.cells #[.int .u8 (p.nm.x0 : Int), .int .u8 (p.nm.x1 : Int), .int .u8 (p.nm.x2 : Int), .int .u8 (p.nm.x3 : Int), .int .u8 (p.nm.x4 : Int), .int .u8 (p.nm.x5 : Int), .int .u8 (p.nm.x6 : Int), .int .u8 (p.nm.x7 : Int), .int .i64 p.no, .int .i64 p.h0, .int .i64 p.h1, .slice A2 n2 c2] 32))
  have Hz0 : Hid (w2.heap.size < (w2.alloc (.cells #[.int .u8 (p.nm.x0 : Int), .int .u8 (p.nm.x1 : Int), .int .u8 (p.nm.x2 : Int), .int .u8 (p.nm.x3 : Int), .int .u8 (p.nm.x4 : Int), .int .u8 (p.nm.x5 : Int), .int .u8 (p.nm.x6 : Int), .int .u8 (p.nm.x7 : Int), .int .i64 p.no, .int .i64 p.h0, .int .i64 p.h1, .slice A2 n2 c2] 32)).heap.size) := by show _ < _; simp
  clear ha2 hb2
  have hs1 := pays_some p now
  have hs2 := pays_some p later
  have hs3 := pays_some p 2199023255552
  generalize hpa : p.pays now = a at *
  generalize hpb : p.pays later = b at *
  generalize hpc : p.pays 2199023255552 = d at *
  have Ha := Lib.hid hpa; have Hb := Lib.hid hpb; have Hd := Lib.hid hpc
  clear hpa hpb hpc
  obtain ⟨a0, a1, a2⟩ := a
  obtain ⟨b0, b1', b2'⟩ := b
  obtain ⟨d0, d1, d2⟩ := d
  obtain ⟨⟨i0, i1⟩, ⟨i2, i3⟩, i4, i5⟩ := hs1
  obtain ⟨⟨j0, j1⟩, ⟨j2, j3⟩, j4, j5⟩ := hs2
  obtain ⟨⟨k0, k1⟩, ⟨k2, k3⟩, k4, k5⟩ := hs3
  simp only at i0 i1 i2 i3 i4 i5 j0 j1 j2 j3 j4 j5 k0 k1 k2 k3 k4 k5
  have HXl := Hz0
  have HXr := Lib.hid HX2.out
  have HAr := Lib.hid ha2'
  clear HX2 HA2
  go_wp2
  generalize w2.alloc (.cells #[.int .u8 (p.nm.x0 : Int), .int .u8 (p.nm.x1 : Int), .int .u8 (p.nm.x2 : Int), .int .u8 (p.nm.x3 : Int), .int .u8 (p.nm.x4 : Int), .int .u8 (p.nm.x5 : Int), .int .u8 (p.nm.x6 : Int), .int .u8 (p.nm.x7 : Int), .int .i64 p.no, .int .i64 p.h0, .int .i64 p.h1, .slice A2 n2 c2] 32) = W at *
  refine wp_region_inv0 (PaysI W p A2 n2 c2 now later (a0, a1, a2) (b0, b1', b2') (d0, d1, d2)) [0, 1, 2, 3, 4, 5, 6, 7, 8, 9, 10, 11, 12, 13] (by kernel_rfl) (by kernel_rfl) (by kernel_rfl) ?_ ?_ ?_
  · refine paysI_start ?_ (Below.refl _ _).drew
    simp only [Act.put, List.setIfInBounds_toArray, List.set_cons_zero, List.set_cons_succ]
  ·
    refine StepsI.cons [] rfl (by kernel_rfl) ?_ ?_
    · intro L a x hp h0 hI K hK
      obtain ⟨v21, v22, v23, v24, v25, v26, v27, v28, v8, v9, v10, ha, hb, f0, f1, f2, f3, f4, f5, f6, f7, f8, f9, f10, f11, f12, f13, e8x9, e8x10, e9x10⟩ := hI
      have HS := Lib.hid (block_below HXr.out hb HXl.out)
      obtain ⟨z0, z1, z2, z3, z4, z5, z6, z7, z8, z9, z10, z11⟩ := PBox.all HS.out
      have HF := Lib.hid (show _ from (⟨f0, f1, f2, f3, f4, f5, f6, f7, f8, f9, f10, f11, f12, f13, e8x9, e8x10, e9x10⟩ : _ ∧ _ ∧ _ ∧ _ ∧ _ ∧ _ ∧ _ ∧ _ ∧ _ ∧ _ ∧ _ ∧ _ ∧ _ ∧ _ ∧ _ ∧ _ ∧ _))
      clear f0 f1 f2 f3 f4 f5 f6 f7 f8 f9 f10 f11 f12 f13 e8x9 e8x10 e9x10
      rw [if_pos (by rfl)]
      simp only [ha, Act.put, List.setIfInBounds_toArray, List.set_cons_zero, List.set_cons_succ]
      clear ha
      go_simp
      obtain ⟨f0, f1, f2, f3, f4, f5, f6, f7, f8, f9, f10, f11, f12, f13, e8x9, e8x10, e9x10⟩ := HF.out
      refine hK.out _ _ ?_
      refine (paysI_mk (.agg #[.int .u8 (p.nm.x0 : Int), .int .u8 (p.nm.x1 : Int), .int .u8 (p.nm.x2 : Int), .int .u8 (p.nm.x3 : Int), .int .u8 (p.nm.x4 : Int), .int .u8 (p.nm.x5 : Int), .int .u8 (p.nm.x6 : Int), .int .u8 (p.nm.x7 : Int), .int .i64 p.no, .int .i64 p.h0, .int .i64 p.h1, .slice A2 n2 c2]) v22 v23 v24 v25 v26 v27 v28 v8 v9 v10 ?_ (hb) ?_ ?_ ?_ ?_ ?_ ?_ ?_ ?_ ?_ ?_ ?_ ?_ ?_ ?_ ?_ ?_ ?_)
      · simp only [Act.put, List.setIfInBounds_toArray, List.set_cons_zero, List.set_cons_succ]
      · exact fun _ => rfl
      · exact fun h => f1 (listed_ne h (by decide))
      · exact fun h => f2 (listed_ne h (by decide))
      · exact fun h => f3 (listed_ne h (by decide))
      · exact fun h => f4 (listed_ne h (by decide))
      · exact fun h => f5 (listed_ne h (by decide))
      · exact fun h => f6 (listed_ne h (by decide))
      · exact fun h => f7 (listed_ne h (by decide))
      · exact fun h => f8 (listed_ne h (by decide))
      · exact fun h => f9 (listed_ne h (by decide))
      · exact fun h => f10 (listed_ne h (by decide))
      · exact fun h => ⟨listed_in (f11 (listed_ne h (by decide))).1, (f11 (listed_ne h (by decide))).2⟩
      · exact fun h => ⟨listed_in (f12 (listed_ne h (by decide))).1, (f12 (listed_ne h (by decide))).2⟩
      · exact fun h => ⟨listed_in (f13 (listed_ne h (by decide))).1, (f13 (listed_ne h (by decide))).2⟩
      · exact fun h h' => e8x9 (listed_ne h (by decide)) (listed_ne h' (by decide))
      · exact fun h h' => e8x10 (listed_ne h (by decide)) (listed_ne h' (by decide))
      · exact fun h h' => e9x10 (listed_ne h (by decide)) (listed_ne h' (by decide))
    refine StepsI.cons [] rfl (by kernel_rfl) ?_ ?_
    · intro L a x hp h0 hI K hK
      obtain ⟨v21, v22, v23, v24, v25, v26, v27, v28, v8, v9, v10, ha, hb, f0, f1, f2, f3, f4, f5, f6, f7, f8, f9, f10, f11, f12, f13, e8x9, e8x10, e9x10⟩ := hI
      have HF := Lib.hid (show _ from (⟨f0, f1, f2, f3, f4, f5, f6, f7, f8, f9, f10, f11, f12, f13, e8x9, e8x10, e9x10⟩ : _ ∧ _ ∧ _ ∧ _ ∧ _ ∧ _ ∧ _ ∧ _ ∧ _ ∧ _ ∧ _ ∧ _ ∧ _ ∧ _ ∧ _ ∧ _ ∧ _))
      clear f0 f1 f2 f3 f4 f5 f6 f7 f8 f9 f10 f11 f12 f13 e8x9 e8x10 e9x10
      rw [if_pos (by rfl)]
      simp only [ha, Act.put, List.setIfInBounds_toArray, List.set_cons_zero, List.set_cons_succ]
      clear ha
      go_simp
      obtain ⟨f0, f1, f2, f3, f4, f5, f6, f7, f8, f9, f10, f11, f12, f13, e8x9, e8x10, e9x10⟩ := HF.out
      refine hK.out _ _ ?_
      refine (paysI_mk v21 (.int .i64 now) v23 v24 v25 v26 v27 v28 v8 v9 v10 ?_ (hb) ?_ ?_ ?_ ?_ ?_ ?_ ?_ ?_ ?_ ?_ ?_ ?_ ?_ ?_ ?_ ?_ ?_)
      · simp only [Act.put, List.setIfInBounds_toArray, List.set_cons_zero, List.set_cons_succ]
      · exact fun h => f0 (listed_ne h (by decide))
      · exact fun _ => rfl
      · exact fun h => f2 (listed_ne h (by decide))
      · exact fun h => f3 (listed_ne h (by decide))
      · exact fun h => f4 (listed_ne h (by decide))
      · exact fun h => f5 (listed_ne h (by decide))
      · exact fun h => f6 (listed_ne h (by decide))
      · exact fun h => f7 (listed_ne h (by decide))
      · exact fun h => f8 (listed_ne h (by decide))
      · exact fun h => f9 (listed_ne h (by decide))
      · exact fun h => f10 (listed_ne h (by decide))
      · exact fun h => ⟨listed_in (f11 (listed_ne h (by decide))).1, (f11 (listed_ne h (by decide))).2⟩
      · exact fun h => ⟨listed_in (f12 (listed_ne h (by decide))).1, (f12 (listed_ne h (by decide))).2⟩
      · exact fun h => ⟨listed_in (f13 (listed_ne h (by decide))).1, (f13 (listed_ne h (by decide))).2⟩
      · exact fun h h' => e8x9 (listed_ne h (by decide)) (listed_ne h' (by decide))
      · exact fun h h' => e8x10 (listed_ne h (by decide)) (listed_ne h' (by decide))
      · exact fun h h' => e9x10 (listed_ne h (by decide)) (listed_ne h' (by decide))
    refine StepsI.cons [0, 1] rfl (by kernel_rfl) ?_ ?_
    · intro L a x hp h0 hI K hK
      obtain ⟨v21, v22, v23, v24, v25, v26, v27, v28, v8, v9, v10, ha, hb, f0, f1, f2, f3, f4, f5, f6, f7, f8, f9, f10, f11, f12, f13, e8x9, e8x10, e9x10⟩ := hI
      obtain rfl := f0 (hp 0 (by decide))
      obtain rfl := f1 (hp 1 (by decide))
      have HF := Lib.hid (show _ from (⟨f0, f1, f2, f3, f4, f5, f6, f7, f8, f9, f10, f11, f12, f13, e8x9, e8x10, e9x10⟩ : _ ∧ _ ∧ _ ∧ _ ∧ _ ∧ _ ∧ _ ∧ _ ∧ _ ∧ _ ∧ _ ∧ _ ∧ _ ∧ _ ∧ _ ∧ _ ∧ _))
      clear f0 f1 f2 f3 f4 f5 f6 f7 f8 f9 f10 f11 f12 f13 e8x9 e8x10 e9x10
      rw [if_pos (by rfl)]
      simp only [ha, Act.put, List.setIfInBounds_toArray, List.set_cons_zero, List.set_cons_succ]
      clear ha
      go_simp
      go_at_call 14
      refine (pays_any p A2 n2 c2 now x (HAr.out.up hb)).mono ?_
      rw [Ha.out]
      rintro e x' ⟨rfl, hb'⟩
      obtain ⟨f0, f1, f2, f3, f4, f5, f6, f7, f8, f9, f10, f11, f12, f13, e8x9, e8x10, e9x10⟩ := HF.out
      refine hK.out _ _ ?_
      refine (paysI_mk (.agg #[.int .u8 (p.nm.x0 : Int), .int .u8 (p.nm.x1 : Int), .int .u8 (p.nm.x2 : Int), .int .u8 (p.nm.x3 : Int), .int .u8 (p.nm.x4 : Int), .int .u8 (p.nm.x5 : Int), .int .u8 (p.nm.x6 : Int), .int .u8 (p.nm.x7 : Int), .int .i64 p.no, .int .i64 p.h0, .int .i64 p.h1, .slice A2 n2 c2]) (.int .i64 now) (agg3 (a0, a1, a2)) v24 v25 v26 v27 v28 v8 v9 v10 ?_ (hb.trans (hb'.mono hb.size)) ?_ ?_ ?_ ?_ ?_ ?_ ?_ ?_ ?_ ?_ ?_ ?_ ?_ ?_ ?_ ?_ ?_)
      · simp only [Act.put, agg3, List.setIfInBounds_toArray, List.set_cons_zero, List.set_cons_succ]
      · exact fun h => f0 (listed_ne h (by decide))
      · exact fun h => f1 (listed_ne h (by decide))
      · exact fun _ => rfl
      · exact fun h => f3 (listed_ne h (by decide))
      · exact fun h => f4 (listed_ne h (by decide))
      · exact fun h => f5 (listed_ne h (by decide))
      · exact fun h => f6 (listed_ne h (by decide))
      · exact fun h => f7 (listed_ne h (by decide))
      · exact fun h => (f8 (listed_ne h (by decide))).below hb'
      · exact fun h => (f9 (listed_ne h (by decide))).below hb'
      · exact fun h => (f10 (listed_ne h (by decide))).below hb'
      · exact fun h => ⟨listed_in (f11 (listed_ne h (by decide))).1, (f11 (listed_ne h (by decide))).2.below hb'⟩
      · exact fun h => ⟨listed_in (f12 (listed_ne h (by decide))).1, (f12 (listed_ne h (by decide))).2.below hb'⟩
      · exact fun h => ⟨listed_in (f13 (listed_ne h (by decide))).1, (f13 (listed_ne h (by decide))).2.below hb'⟩
      · exact fun h h' => e8x9 (listed_ne h (by decide)) (listed_ne h' (by decide))
      · exact fun h h' => e8x10 (listed_ne h (by decide)) (listed_ne h' (by decide))
      · exact fun h h' => e9x10 (listed_ne h (by decide)) (listed_ne h' (by decide))
    refine StepsI.cons [] rfl (by kernel_rfl) ?_ ?_
    · intro L a x hp h0 hI K hK
      obtain ⟨v21, v22, v23, v24, v25, v26, v27, v28, v8, v9, v10, ha, hb, f0, f1, f2, f3, f4, f5, f6, f7, f8, f9, f10, f11, f12, f13, e8x9, e8x10, e9x10⟩ := hI
      have HS := Lib.hid (block_below HXr.out hb HXl.out)
      obtain ⟨z0, z1, z2, z3, z4, z5, z6, z7, z8, z9, z10, z11⟩ := PBox.all HS.out
      have HF := Lib.hid (show _ from (⟨f0, f1, f2, f3, f4, f5, f6, f7, f8, f9, f10, f11, f12, f13, e8x9, e8x10, e9x10⟩ : _ ∧ _ ∧ _ ∧ _ ∧ _ ∧ _ ∧ _ ∧ _ ∧ _ ∧ _ ∧ _ ∧ _ ∧ _ ∧ _ ∧ _ ∧ _ ∧ _))
      clear f0 f1 f2 f3 f4 f5 f6 f7 f8 f9 f10 f11 f12 f13 e8x9 e8x10 e9x10
      rw [if_pos (by rfl)]
      simp only [ha, Act.put, List.setIfInBounds_toArray, List.set_cons_zero, List.set_cons_succ]
      clear ha
      go_simp
      obtain ⟨f0, f1, f2, f3, f4, f5, f6, f7, f8, f9, f10, f11, f12, f13, e8x9, e8x10, e9x10⟩ := HF.out
      refine hK.out _ _ ?_
      refine (paysI_mk v21 v22 v23 (.agg #[.int .u8 (p.nm.x0 : Int), .int .u8 (p.nm.x1 : Int), .int .u8 (p.nm.x2 : Int), .int .u8 (p.nm.x3 : Int), .int .u8 (p.nm.x4 : Int), .int .u8 (p.nm.x5 : Int), .int .u8 (p.nm.x6 : Int), .int .u8 (p.nm.x7 : Int), .int .i64 p.no, .int .i64 p.h0, .int .i64 p.h1, .slice A2 n2 c2]) v25 v26 v27 v28 v8 v9 v10 ?_ (hb) ?_ ?_ ?_ ?_ ?_ ?_ ?_ ?_ ?_ ?_ ?_ ?_ ?_ ?_ ?_ ?_ ?_)
      · simp only [Act.put, List.setIfInBounds_toArray, List.set_cons_zero, List.set_cons_succ]
      · exact fun h => f0 (listed_ne h (by decide))
      · exact fun h => f1 (listed_ne h (by decide))
      · exact fun h => f2 (listed_ne h (by decide))
      · exact fun _ => rfl
      · exact fun h => f4 (listed_ne h (by decide))
      · exact fun h => f5 (listed_ne h (by decide))
      · exact fun h => f6 (listed_ne h (by decide))
      · exact fun h => f7 (listed_ne h (by decide))
      · exact fun h => f8 (listed_ne h (by decide))
      · exact fun h => f9 (listed_ne h (by decide))
      · exact fun h => f10 (listed_ne h (by decide))
      · exact fun h => ⟨listed_in (f11 (listed_ne h (by decide))).1, (f11 (listed_ne h (by decide))).2⟩
      · exact fun h => ⟨listed_in (f12 (listed_ne h (by decide))).1, (f12 (listed_ne h (by decide))).2⟩
      · exact fun h => ⟨listed_in (f13 (listed_ne h (by decide))).1, (f13 (listed_ne h (by decide))).2⟩
      · exact fun h h' => e8x9 (listed_ne h (by decide)) (listed_ne h' (by decide))
      · exact fun h h' => e8x10 (listed_ne h (by decide)) (listed_ne h' (by decide))
      · exact fun h h' => e9x10 (listed_ne h (by decide)) (listed_ne h' (by decide))
    refine StepsI.cons [] rfl (by kernel_rfl) ?_ ?_
    · intro L a x hp h0 hI K hK
      obtain ⟨v21, v22, v23, v24, v25, v26, v27, v28, v8, v9, v10, ha, hb, f0, f1, f2, f3, f4, f5, f6, f7, f8, f9, f10, f11, f12, f13, e8x9, e8x10, e9x10⟩ := hI
      have HF := Lib.hid (show _ from (⟨f0, f1, f2, f3, f4, f5, f6, f7, f8, f9, f10, f11, f12, f13, e8x9, e8x10, e9x10⟩ : _ ∧ _ ∧ _ ∧ _ ∧ _ ∧ _ ∧ _ ∧ _ ∧ _ ∧ _ ∧ _ ∧ _ ∧ _ ∧ _ ∧ _ ∧ _ ∧ _))
      clear f0 f1 f2 f3 f4 f5 f6 f7 f8 f9 f10 f11 f12 f13 e8x9 e8x10 e9x10
      rw [if_pos (by rfl)]
      simp only [ha, Act.put, List.setIfInBounds_toArray, List.set_cons_zero, List.set_cons_succ]
      clear ha
      go_simp
      obtain ⟨f0, f1, f2, f3, f4, f5, f6, f7, f8, f9, f10, f11, f12, f13, e8x9, e8x10, e9x10⟩ := HF.out
      refine hK.out _ _ ?_
      refine (paysI_mk v21 v22 v23 v24 (.int .i64 later) v26 v27 v28 v8 v9 v10 ?_ (hb) ?_ ?_ ?_ ?_ ?_ ?_ ?_ ?_ ?_ ?_ ?_ ?_ ?_ ?_ ?_ ?_ ?_)
      · simp only [Act.put, List.setIfInBounds_toArray, List.set_cons_zero, List.set_cons_succ]
      · exact fun h => f0 (listed_ne h (by decide))
      · exact fun h => f1 (listed_ne h (by decide))
      · exact fun h => f2 (listed_ne h (by decide))
      · exact fun h => f3 (listed_ne h (by decide))
      · exact fun _ => rfl
      · exact fun h => f5 (listed_ne h (by decide))
      · exact fun h => f6 (listed_ne h (by decide))
      · exact fun h => f7 (listed_ne h (by decide))
      · exact fun h => f8 (listed_ne h (by decide))
      · exact fun h => f9 (listed_ne h (by decide))
      · exact fun h => f10 (listed_ne h (by decide))
      · exact fun h => ⟨listed_in (f11 (listed_ne h (by decide))).1, (f11 (listed_ne h (by decide))).2⟩
      · exact fun h => ⟨listed_in (f12 (listed_ne h (by decide))).1, (f12 (listed_ne h (by decide))).2⟩
      · exact fun h => ⟨listed_in (f13 (listed_ne h (by decide))).1, (f13 (listed_ne h (by decide))).2⟩
      · exact fun h h' => e8x9 (listed_ne h (by decide)) (listed_ne h' (by decide))
      · exact fun h h' => e8x10 (listed_ne h (by decide)) (listed_ne h' (by decide))
      · exact fun h h' => e9x10 (listed_ne h (by decide)) (listed_ne h' (by decide))
    refine StepsI.cons [3, 4, 2] rfl (by kernel_rfl) ?_ ?_
    · intro L a x hp h0 hI K hK
      obtain ⟨v21, v22, v23, v24, v25, v26, v27, v28, v8, v9, v10, ha, hb, f0, f1, f2, f3, f4, f5, f6, f7, f8, f9, f10, f11, f12, f13, e8x9, e8x10, e9x10⟩ := hI
      obtain rfl := f3 (hp 3 (by decide))
      obtain rfl := f4 (hp 4 (by decide))
      have HF := Lib.hid (show _ from (⟨f0, f1, f2, f3, f4, f5, f6, f7, f8, f9, f10, f11, f12, f13, e8x9, e8x10, e9x10⟩ : _ ∧ _ ∧ _ ∧ _ ∧ _ ∧ _ ∧ _ ∧ _ ∧ _ ∧ _ ∧ _ ∧ _ ∧ _ ∧ _ ∧ _ ∧ _ ∧ _))
      clear f0 f1 f2 f3 f4 f5 f6 f7 f8 f9 f10 f11 f12 f13 e8x9 e8x10 e9x10
      rw [if_pos (by rfl)]
      simp only [ha, Act.put, List.setIfInBounds_toArray, List.set_cons_zero, List.set_cons_succ]
      clear ha
      go_simp
      go_at_call 14
      refine (pays_any p A2 n2 c2 later x (HAr.out.up hb)).mono ?_
      rw [Hb.out]
      rintro e x' ⟨rfl, hb'⟩
      obtain ⟨f0, f1, f2, f3, f4, f5, f6, f7, f8, f9, f10, f11, f12, f13, e8x9, e8x10, e9x10⟩ := HF.out
      refine hK.out _ _ ?_
      refine (paysI_mk v21 v22 v23 (.agg #[.int .u8 (p.nm.x0 : Int), .int .u8 (p.nm.x1 : Int), .int .u8 (p.nm.x2 : Int), .int .u8 (p.nm.x3 : Int), .int .u8 (p.nm.x4 : Int), .int .u8 (p.nm.x5 : Int), .int .u8 (p.nm.x6 : Int), .int .u8 (p.nm.x7 : Int), .int .i64 p.no, .int .i64 p.h0, .int .i64 p.h1, .slice A2 n2 c2]) (.int .i64 later) (agg3 (b0, b1', b2')) v27 v28 v8 v9 v10 ?_ (hb.trans (hb'.mono hb.size)) ?_ ?_ ?_ ?_ ?_ ?_ ?_ ?_ ?_ ?_ ?_ ?_ ?_ ?_ ?_ ?_ ?_)
      · simp only [Act.put, agg3, List.setIfInBounds_toArray, List.set_cons_zero, List.set_cons_succ]
      · exact fun h => f0 (listed_ne h (by decide))
      · exact fun h => f1 (listed_ne h (by decide))
      · exact fun h => f2 (listed_ne h (by decide))
      · exact fun h => f3 (listed_ne h (by decide))
      · exact fun h => f4 (listed_ne h (by decide))
      · exact fun _ => rfl
      · exact fun h => f6 (listed_ne h (by decide))
      · exact fun h => f7 (listed_ne h (by decide))
      · exact fun h => (f8 (listed_ne h (by decide))).below hb'
      · exact fun h => (f9 (listed_ne h (by decide))).below hb'
      · exact fun h => (f10 (listed_ne h (by decide))).below hb'
      · exact fun h => ⟨listed_in (f11 (listed_ne h (by decide))).1, (f11 (listed_ne h (by decide))).2.below hb'⟩
      · exact fun h => ⟨listed_in (f12 (listed_ne h (by decide))).1, (f12 (listed_ne h (by decide))).2.below hb'⟩
      · exact fun h => ⟨listed_in (f13 (listed_ne h (by decide))).1, (f13 (listed_ne h (by decide))).2.below hb'⟩
      · exact fun h h' => e8x9 (listed_ne h (by decide)) (listed_ne h' (by decide))
      · exact fun h h' => e8x10 (listed_ne h (by decide)) (listed_ne h' (by decide))
      · exact fun h h' => e9x10 (listed_ne h (by decide)) (listed_ne h' (by decide))
    refine StepsI.cons [] rfl (by kernel_rfl) ?_ ?_
    · intro L a x hp h0 hI K hK
      obtain ⟨v21, v22, v23, v24, v25, v26, v27, v28, v8, v9, v10, ha, hb, f0, f1, f2, f3, f4, f5, f6, f7, f8, f9, f10, f11, f12, f13, e8x9, e8x10, e9x10⟩ := hI
      have HS := Lib.hid (block_below HXr.out hb HXl.out)
      obtain ⟨z0, z1, z2, z3, z4, z5, z6, z7, z8, z9, z10, z11⟩ := PBox.all HS.out
      have HF := Lib.hid (show _ from (⟨f0, f1, f2, f3, f4, f5, f6, f7, f8, f9, f10, f11, f12, f13, e8x9, e8x10, e9x10⟩ : _ ∧ _ ∧ _ ∧ _ ∧ _ ∧ _ ∧ _ ∧ _ ∧ _ ∧ _ ∧ _ ∧ _ ∧ _ ∧ _ ∧ _ ∧ _ ∧ _))
      clear f0 f1 f2 f3 f4 f5 f6 f7 f8 f9 f10 f11 f12 f13 e8x9 e8x10 e9x10
      rw [if_pos (by rfl)]
      simp only [ha, Act.put, List.setIfInBounds_toArray, List.set_cons_zero, List.set_cons_succ]
      clear ha
      go_simp
      obtain ⟨f0, f1, f2, f3, f4, f5, f6, f7, f8, f9, f10, f11, f12, f13, e8x9, e8x10, e9x10⟩ := HF.out
      refine hK.out _ _ ?_
      refine (paysI_mk v21 v22 v23 v24 v25 v26 (.agg #[.int .u8 (p.nm.x0 : Int), .int .u8 (p.nm.x1 : Int), .int .u8 (p.nm.x2 : Int), .int .u8 (p.nm.x3 : Int), .int .u8 (p.nm.x4 : Int), .int .u8 (p.nm.x5 : Int), .int .u8 (p.nm.x6 : Int), .int .u8 (p.nm.x7 : Int), .int .i64 p.no, .int .i64 p.h0, .int .i64 p.h1, .slice A2 n2 c2]) v28 v8 v9 v10 ?_ (hb) ?_ ?_ ?_ ?_ ?_ ?_ ?_ ?_ ?_ ?_ ?_ ?_ ?_ ?_ ?_ ?_ ?_)
      · simp only [Act.put, List.setIfInBounds_toArray, List.set_cons_zero, List.set_cons_succ]
      · exact fun h => f0 (listed_ne h (by decide))
      · exact fun h => f1 (listed_ne h (by decide))
      · exact fun h => f2 (listed_ne h (by decide))
      · exact fun h => f3 (listed_ne h (by decide))
      · exact fun h => f4 (listed_ne h (by decide))
      · exact fun h => f5 (listed_ne h (by decide))
      · exact fun _ => rfl
      · exact fun h => f7 (listed_ne h (by decide))
      · exact fun h => f8 (listed_ne h (by decide))
      · exact fun h => f9 (listed_ne h (by decide))
      · exact fun h => f10 (listed_ne h (by decide))
      · exact fun h => ⟨listed_in (f11 (listed_ne h (by decide))).1, (f11 (listed_ne h (by decide))).2⟩
      · exact fun h => ⟨listed_in (f12 (listed_ne h (by decide))).1, (f12 (listed_ne h (by decide))).2⟩
      · exact fun h => ⟨listed_in (f13 (listed_ne h (by decide))).1, (f13 (listed_ne h (by decide))).2⟩
      · exact fun h h' => e8x9 (listed_ne h (by decide)) (listed_ne h' (by decide))
      · exact fun h h' => e8x10 (listed_ne h (by decide)) (listed_ne h' (by decide))
      · exact fun h h' => e9x10 (listed_ne h (by decide)) (listed_ne h' (by decide))
    refine StepsI.cons [6, 5] rfl (by kernel_rfl) ?_ ?_
    · intro L a x hp h0 hI K hK
      obtain ⟨v21, v22, v23, v24, v25, v26, v27, v28, v8, v9, v10, ha, hb, f0, f1, f2, f3, f4, f5, f6, f7, f8, f9, f10, f11, f12, f13, e8x9, e8x10, e9x10⟩ := hI
      obtain rfl := f6 (hp 6 (by decide))
      have HF := Lib.hid (show _ from (⟨f0, f1, f2, f3, f4, f5, f6, f7, f8, f9, f10, f11, f12, f13, e8x9, e8x10, e9x10⟩ : _ ∧ _ ∧ _ ∧ _ ∧ _ ∧ _ ∧ _ ∧ _ ∧ _ ∧ _ ∧ _ ∧ _ ∧ _ ∧ _ ∧ _ ∧ _ ∧ _))
      clear f0 f1 f2 f3 f4 f5 f6 f7 f8 f9 f10 f11 f12 f13 e8x9 e8x10 e9x10
      rw [if_pos (by rfl)]
      simp only [ha, Act.put, List.setIfInBounds_toArray, List.set_cons_zero, List.set_cons_succ]
      clear ha
      go_simp
      go_at_call 14
      refine (pays_any p A2 n2 c2 2199023255552 x (HAr.out.up hb)).mono ?_
      rw [Hd.out]
      rintro e x' ⟨rfl, hb'⟩
      obtain ⟨f0, f1, f2, f3, f4, f5, f6, f7, f8, f9, f10, f11, f12, f13, e8x9, e8x10, e9x10⟩ := HF.out
      refine hK.out _ _ ?_
      refine (paysI_mk v21 v22 v23 v24 v25 v26 (.agg #[.int .u8 (p.nm.x0 : Int), .int .u8 (p.nm.x1 : Int), .int .u8 (p.nm.x2 : Int), .int .u8 (p.nm.x3 : Int), .int .u8 (p.nm.x4 : Int), .int .u8 (p.nm.x5 : Int), .int .u8 (p.nm.x6 : Int), .int .u8 (p.nm.x7 : Int), .int .i64 p.no, .int .i64 p.h0, .int .i64 p.h1, .slice A2 n2 c2]) (agg3 (d0, d1, d2)) v8 v9 v10 ?_ (hb.trans (hb'.mono hb.size)) ?_ ?_ ?_ ?_ ?_ ?_ ?_ ?_ ?_ ?_ ?_ ?_ ?_ ?_ ?_ ?_ ?_)
      · simp only [Act.put, agg3, List.setIfInBounds_toArray, List.set_cons_zero, List.set_cons_succ]
      · exact fun h => f0 (listed_ne h (by decide))
      · exact fun h => f1 (listed_ne h (by decide))
      · exact fun h => f2 (listed_ne h (by decide))
      · exact fun h => f3 (listed_ne h (by decide))
      · exact fun h => f4 (listed_ne h (by decide))
      · exact fun h => f5 (listed_ne h (by decide))
      · exact fun h => f6 (listed_ne h (by decide))
      · exact fun _ => rfl
      · exact fun h => (f8 (listed_ne h (by decide))).below hb'
      · exact fun h => (f9 (listed_ne h (by decide))).below hb'
      · exact fun h => (f10 (listed_ne h (by decide))).below hb'
      · exact fun h => ⟨listed_in (f11 (listed_ne h (by decide))).1, (f11 (listed_ne h (by decide))).2.below hb'⟩
      · exact fun h => ⟨listed_in (f12 (listed_ne h (by decide))).1, (f12 (listed_ne h (by decide))).2.below hb'⟩
      · exact fun h => ⟨listed_in (f13 (listed_ne h (by decide))).1, (f13 (listed_ne h (by decide))).2.below hb'⟩
      · exact fun h h' => e8x9 (listed_ne h (by decide)) (listed_ne h' (by decide))
      · exact fun h h' => e8x10 (listed_ne h (by decide)) (listed_ne h' (by decide))
      · exact fun h h' => e9x10 (listed_ne h (by decide)) (listed_ne h' (by decide))
    refine StepsI.cons [] rfl (by kernel_rfl) ?_ ?_
    · intro L a x hp h0 hI K hK
      obtain ⟨v21, v22, v23, v24, v25, v26, v27, v28, v8, v9, v10, ha, hb, f0, f1, f2, f3, f4, f5, f6, f7, f8, f9, f10, f11, f12, f13, e8x9, e8x10, e9x10⟩ := hI
      have HF := Lib.hid (show _ from (⟨f0, f1, f2, f3, f4, f5, f6, f7, f8, f9, f10, f11, f12, f13, e8x9, e8x10, e9x10⟩ : _ ∧ _ ∧ _ ∧ _ ∧ _ ∧ _ ∧ _ ∧ _ ∧ _ ∧ _ ∧ _ ∧ _ ∧ _ ∧ _ ∧ _ ∧ _ ∧ _))
      clear f0 f1 f2 f3 f4 f5 f6 f7 f8 f9 f10 f11 f12 f13 e8x9 e8x10 e9x10
      rw [if_pos (by rfl)]
      simp only [ha, Act.put, List.setIfInBounds_toArray, List.set_cons_zero, List.set_cons_succ]
      clear ha
      go_simp
      obtain ⟨f0, f1, f2, f3, f4, f5, f6, f7, f8, f9, f10, f11, f12, f13, e8x9, e8x10, e9x10⟩ := HF.out
      refine hK.out _ _ ?_
      refine (paysI_mk v21 v22 v23 v24 v25 v26 v27 v28 (.pointer (some ⟨x.heap.size, 0, none⟩)) v9 v10 ?_ (hb.alloc hb.size _) ?_ ?_ ?_ ?_ ?_ ?_ ?_ ?_ ?_ ?_ ?_ ?_ ?_ ?_ ?_ ?_ ?_)
      · simp only [Act.put, List.setIfInBounds_toArray, List.set_cons_zero, List.set_cons_succ]
      · exact fun h => f0 (listed_ne h (by decide))
      · exact fun h => f1 (listed_ne h (by decide))
      · exact fun h => f2 (listed_ne h (by decide))
      · exact fun h => f3 (listed_ne h (by decide))
      · exact fun h => f4 (listed_ne h (by decide))
      · exact fun h => f5 (listed_ne h (by decide))
      · exact fun h => f6 (listed_ne h (by decide))
      · exact fun h => f7 (listed_ne h (by decide))
      · exact fun _ => BoxP.new hb.size
      · exact fun h => (f9 (listed_ne h (by decide))).alloc _
      · exact fun h => (f10 (listed_ne h (by decide))).alloc _
      · exact fun h => absurd (f11 (listed_ne h (by decide))).1 (yet_no h0)
      · exact fun h => ⟨listed_in (f12 (listed_ne h (by decide))).1, (f12 (listed_ne h (by decide))).2.alloc _⟩
      · exact fun h => ⟨listed_in (f13 (listed_ne h (by decide))).1, (f13 (listed_ne h (by decide))).2.alloc _⟩
      · exact fun _ h => box_new (f9 (listed_ne h (by decide)))
      · exact fun _ h => box_new (f10 (listed_ne h (by decide)))
      · exact fun h h' => e9x10 (listed_ne h (by decide)) (listed_ne h' (by decide))
    refine StepsI.cons [] rfl (by kernel_rfl) ?_ ?_
    · intro L a x hp h0 hI K hK
      obtain ⟨v21, v22, v23, v24, v25, v26, v27, v28, v8, v9, v10, ha, hb, f0, f1, f2, f3, f4, f5, f6, f7, f8, f9, f10, f11, f12, f13, e8x9, e8x10, e9x10⟩ := hI
      have HF := Lib.hid (show _ from (⟨f0, f1, f2, f3, f4, f5, f6, f7, f8, f9, f10, f11, f12, f13, e8x9, e8x10, e9x10⟩ : _ ∧ _ ∧ _ ∧ _ ∧ _ ∧ _ ∧ _ ∧ _ ∧ _ ∧ _ ∧ _ ∧ _ ∧ _ ∧ _ ∧ _ ∧ _ ∧ _))
      clear f0 f1 f2 f3 f4 f5 f6 f7 f8 f9 f10 f11 f12 f13 e8x9 e8x10 e9x10
      rw [if_pos (by rfl)]
      simp only [ha, Act.put, List.setIfInBounds_toArray, List.set_cons_zero, List.set_cons_succ]
      clear ha
      go_simp
      obtain ⟨f0, f1, f2, f3, f4, f5, f6, f7, f8, f9, f10, f11, f12, f13, e8x9, e8x10, e9x10⟩ := HF.out
      refine hK.out _ _ ?_
      refine (paysI_mk v21 v22 v23 v24 v25 v26 v27 v28 v8 (.pointer (some ⟨x.heap.size, 0, none⟩)) v10 ?_ (hb.alloc hb.size _) ?_ ?_ ?_ ?_ ?_ ?_ ?_ ?_ ?_ ?_ ?_ ?_ ?_ ?_ ?_ ?_ ?_)
      · simp only [Act.put, List.setIfInBounds_toArray, List.set_cons_zero, List.set_cons_succ]
      · exact fun h => f0 (listed_ne h (by decide))
      · exact fun h => f1 (listed_ne h (by decide))
      · exact fun h => f2 (listed_ne h (by decide))
      · exact fun h => f3 (listed_ne h (by decide))
      · exact fun h => f4 (listed_ne h (by decide))
      · exact fun h => f5 (listed_ne h (by decide))
      · exact fun h => f6 (listed_ne h (by decide))
      · exact fun h => f7 (listed_ne h (by decide))
      · exact fun h => (f8 (listed_ne h (by decide))).alloc _
      · exact fun _ => BoxP.new hb.size
      · exact fun h => (f10 (listed_ne h (by decide))).alloc _
      · exact fun h => ⟨listed_in (f11 (listed_ne h (by decide))).1, (f11 (listed_ne h (by decide))).2.alloc _⟩
      · exact fun h => absurd (f12 (listed_ne h (by decide))).1 (yet_no h0)
      · exact fun h => ⟨listed_in (f13 (listed_ne h (by decide))).1, (f13 (listed_ne h (by decide))).2.alloc _⟩
      · exact fun h _ => (box_new (f8 (listed_ne h (by decide)))).symm
      · exact fun h h' => e8x10 (listed_ne h (by decide)) (listed_ne h' (by decide))
      · exact fun _ h => box_new (f10 (listed_ne h (by decide)))
    refine StepsI.cons [] rfl (by kernel_rfl) ?_ ?_
    · intro L a x hp h0 hI K hK
      obtain ⟨v21, v22, v23, v24, v25, v26, v27, v28, v8, v9, v10, ha, hb, f0, f1, f2, f3, f4, f5, f6, f7, f8, f9, f10, f11, f12, f13, e8x9, e8x10, e9x10⟩ := hI
      have HF := Lib.hid (show _ from (⟨f0, f1, f2, f3, f4, f5, f6, f7, f8, f9, f10, f11, f12, f13, e8x9, e8x10, e9x10⟩ : _ ∧ _ ∧ _ ∧ _ ∧ _ ∧ _ ∧ _ ∧ _ ∧ _ ∧ _ ∧ _ ∧ _ ∧ _ ∧ _ ∧ _ ∧ _ ∧ _))
      clear f0 f1 f2 f3 f4 f5 f6 f7 f8 f9 f10 f11 f12 f13 e8x9 e8x10 e9x10
      rw [if_pos (by rfl)]
      simp only [ha, Act.put, List.setIfInBounds_toArray, List.set_cons_zero, List.set_cons_succ]
      clear ha
      go_simp
      obtain ⟨f0, f1, f2, f3, f4, f5, f6, f7, f8, f9, f10, f11, f12, f13, e8x9, e8x10, e9x10⟩ := HF.out
      refine hK.out _ _ ?_
      refine (paysI_mk v21 v22 v23 v24 v25 v26 v27 v28 v8 v9 (.pointer (some ⟨x.heap.size, 0, none⟩)) ?_ (hb.alloc hb.size _) ?_ ?_ ?_ ?_ ?_ ?_ ?_ ?_ ?_ ?_ ?_ ?_ ?_ ?_ ?_ ?_ ?_)
      · simp only [Act.put, List.setIfInBounds_toArray, List.set_cons_zero, List.set_cons_succ]
      · exact fun h => f0 (listed_ne h (by decide))
      · exact fun h => f1 (listed_ne h (by decide))
      · exact fun h => f2 (listed_ne h (by decide))
      · exact fun h => f3 (listed_ne h (by decide))
      · exact fun h => f4 (listed_ne h (by decide))
      · exact fun h => f5 (listed_ne h (by decide))
      · exact fun h => f6 (listed_ne h (by decide))
      · exact fun h => f7 (listed_ne h (by decide))
      · exact fun h => (f8 (listed_ne h (by decide))).alloc _
      · exact fun h => (f9 (listed_ne h (by decide))).alloc _
      · exact fun _ => BoxP.new hb.size
      · exact fun h => ⟨listed_in (f11 (listed_ne h (by decide))).1, (f11 (listed_ne h (by decide))).2.alloc _⟩
      · exact fun h => ⟨listed_in (f12 (listed_ne h (by decide))).1, (f12 (listed_ne h (by decide))).2.alloc _⟩
      · exact fun h => absurd (f13 (listed_ne h (by decide))).1 (yet_no h0)
      · exact fun h h' => e8x9 (listed_ne h (by decide)) (listed_ne h' (by decide))
      · exact fun h _ => (box_new (f8 (listed_ne h (by decide)))).symm
      · exact fun h _ => (box_new (f9 (listed_ne h (by decide)))).symm
    refine StepsI.cons [8, 2, 7, 0, 1, 2, 8, 9, 10] rfl (by kernel_rfl) ?_ ?_
    · intro L a x hp h0 hI K hK
      obtain ⟨v21, v22, v23, v24, v25, v26, v27, v28, v8, v9, v10, ha, hb, f0, f1, f2, f3, f4, f5, f6, f7, f8, f9, f10, f11, f12, f13, e8x9, e8x10, e9x10⟩ := hI
      have hbx := f8 (hp 8 (by decide))
      obtain ⟨g, cs, rfl, hgB, hG, hcs⟩ := hbx
      have esrc := f2 (hp 2 (by decide))
      simp only [agg3] at esrc
      subst esrc
      have hf := block_free hG
      have hgl := block_lt hG
      have hc3 := BoxP.cells hG hcs
      obtain ⟨u0, u1, u2, y0, y1, y2⟩ := hc3
      have HF := Lib.hid (show _ from (⟨f0, f1, f2, f3, f4, f5, f6, f7, f8, f9, f10, f11, f12, f13, e8x9, e8x10, e9x10⟩ : _ ∧ _ ∧ _ ∧ _ ∧ _ ∧ _ ∧ _ ∧ _ ∧ _ ∧ _ ∧ _ ∧ _ ∧ _ ∧ _ ∧ _ ∧ _ ∧ _))
      clear f0 f1 f2 f3 f4 f5 f6 f7 f8 f9 f10 f11 f12 f13 e8x9 e8x10 e9x10
      rw [if_pos (by rfl)]
      simp only [ha, Act.put, List.setIfInBounds_toArray, List.set_cons_zero, List.set_cons_succ]
      clear ha
      go_simp
      obtain ⟨f0, f1, f2, f3, f4, f5, f6, f7, f8, f9, f10, f11, f12, f13, e8x9, e8x10, e9x10⟩ := HF.out
      refine hK.out _ _ ?_
      refine (paysI_mk v21 v22 (agg3 (a0, a1, a2)) v24 v25 v26 v27 v28 (.pointer (some ⟨g, 0, none⟩)) v9 v10 ?_ (((hb.setCell hgB _).setCell hgB _).setCell hgB _) ?_ ?_ ?_ ?_ ?_ ?_ ?_ ?_ ?_ ?_ ?_ ?_ ?_ ?_ ?_ ?_ ?_)
      · simp only [Act.put, agg3, List.setIfInBounds_toArray, List.set_cons_zero, List.set_cons_succ]
      · exact fun h => f0 (listed_ne h (by decide))
      · exact fun h => f1 (listed_ne h (by decide))
      · exact fun h => f2 (listed_ne h (by decide))
      · exact fun h => f3 (listed_ne h (by decide))
      · exact fun h => f4 (listed_ne h (by decide))
      · exact fun h => f5 (listed_ne h (by decide))
      · exact fun h => f6 (listed_ne h (by decide))
      · exact fun h => f7 (listed_ne h (by decide))
      · exact fun h => (f8 (listed_ne h (by decide))).set g _ _ _
      · exact fun h => (f9 (listed_ne h (by decide))).set g _ _ _
      · exact fun h => (f10 (listed_ne h (by decide))).set g _ _ _
      · exact fun _ => ⟨listed_in (hp 8 (by decide)), HoldsP.new hgB hG hcs (a0, a1, a2)⟩
      · exact fun h => ⟨listed_in (f12 (listed_ne h (by decide))).1, (f12 (listed_ne h (by decide))).2.set g _ _ _ ((e8x9 (hp 8 (by decide)) (hp 9 (by decide))).symm)⟩
      · exact fun h => ⟨listed_in (f13 (listed_ne h (by decide))).1, (f13 (listed_ne h (by decide))).2.set g _ _ _ ((e8x10 (hp 8 (by decide)) (hp 10 (by decide))).symm)⟩
      · exact fun h h' => e8x9 (listed_ne h (by decide)) (listed_ne h' (by decide))
      · exact fun h h' => e8x10 (listed_ne h (by decide)) (listed_ne h' (by decide))
      · exact fun h h' => e9x10 (listed_ne h (by decide)) (listed_ne h' (by decide))
    refine StepsI.cons [9, 5, 11, 0, 1, 2, 3, 4, 5, 8, 9, 10, 11] rfl (by kernel_rfl) ?_ ?_
    · intro L a x hp h0 hI K hK
      obtain ⟨v21, v22, v23, v24, v25, v26, v27, v28, v8, v9, v10, ha, hb, f0, f1, f2, f3, f4, f5, f6, f7, f8, f9, f10, f11, f12, f13, e8x9, e8x10, e9x10⟩ := hI
      have hbx := f9 (hp 9 (by decide))
      obtain ⟨g, cs, rfl, hgB, hG, hcs⟩ := hbx
      have esrc := f5 (hp 5 (by decide))
      simp only [agg3] at esrc
      subst esrc
      have hf := block_free hG
      have hgl := block_lt hG
      have hc3 := BoxP.cells hG hcs
      obtain ⟨u0, u1, u2, y0, y1, y2⟩ := hc3
      have HF := Lib.hid (show _ from (⟨f0, f1, f2, f3, f4, f5, f6, f7, f8, f9, f10, f11, f12, f13, e8x9, e8x10, e9x10⟩ : _ ∧ _ ∧ _ ∧ _ ∧ _ ∧ _ ∧ _ ∧ _ ∧ _ ∧ _ ∧ _ ∧ _ ∧ _ ∧ _ ∧ _ ∧ _ ∧ _))
      clear f0 f1 f2 f3 f4 f5 f6 f7 f8 f9 f10 f11 f12 f13 e8x9 e8x10 e9x10
      rw [if_pos (by rfl)]
      simp only [ha, Act.put, List.setIfInBounds_toArray, List.set_cons_zero, List.set_cons_succ]
      clear ha
      go_simp
      obtain ⟨f0, f1, f2, f3, f4, f5, f6, f7, f8, f9, f10, f11, f12, f13, e8x9, e8x10, e9x10⟩ := HF.out
      refine hK.out _ _ ?_
      refine (paysI_mk v21 v22 v23 v24 v25 (agg3 (b0, b1', b2')) v27 v28 v8 (.pointer (some ⟨g, 0, none⟩)) v10 ?_ (((hb.setCell hgB _).setCell hgB _).setCell hgB _) ?_ ?_ ?_ ?_ ?_ ?_ ?_ ?_ ?_ ?_ ?_ ?_ ?_ ?_ ?_ ?_ ?_)
      · simp only [Act.put, agg3, List.setIfInBounds_toArray, List.set_cons_zero, List.set_cons_succ]
      · exact fun h => f0 (listed_ne h (by decide))
      · exact fun h => f1 (listed_ne h (by decide))
      · exact fun h => f2 (listed_ne h (by decide))
      · exact fun h => f3 (listed_ne h (by decide))
      · exact fun h => f4 (listed_ne h (by decide))
      · exact fun h => f5 (listed_ne h (by decide))
      · exact fun h => f6 (listed_ne h (by decide))
      · exact fun h => f7 (listed_ne h (by decide))
      · exact fun h => (f8 (listed_ne h (by decide))).set g _ _ _
      · exact fun h => (f9 (listed_ne h (by decide))).set g _ _ _
      · exact fun h => (f10 (listed_ne h (by decide))).set g _ _ _
      · exact fun h => ⟨listed_in (f11 (listed_ne h (by decide))).1, (f11 (listed_ne h (by decide))).2.set g _ _ _ (e8x9 (hp 8 (by decide)) (hp 9 (by decide)))⟩
      · exact fun _ => ⟨listed_in (hp 9 (by decide)), HoldsP.new hgB hG hcs (b0, b1', b2')⟩
      · exact fun h => ⟨listed_in (f13 (listed_ne h (by decide))).1, (f13 (listed_ne h (by decide))).2.set g _ _ _ ((e9x10 (hp 9 (by decide)) (hp 10 (by decide))).symm)⟩
      · exact fun h h' => e8x9 (listed_ne h (by decide)) (listed_ne h' (by decide))
      · exact fun h h' => e8x10 (listed_ne h (by decide)) (listed_ne h' (by decide))
      · exact fun h h' => e9x10 (listed_ne h (by decide)) (listed_ne h' (by decide))
    refine StepsI.cons [10, 7, 12, 0, 1, 2, 3, 4, 5, 6, 7, 8, 9, 10, 11, 12] rfl (by kernel_rfl) ?_ ?_
    · intro L a x hp h0 hI K hK
      obtain ⟨v21, v22, v23, v24, v25, v26, v27, v28, v8, v9, v10, ha, hb, f0, f1, f2, f3, f4, f5, f6, f7, f8, f9, f10, f11, f12, f13, e8x9, e8x10, e9x10⟩ := hI
      have hbx := f10 (hp 10 (by decide))
      obtain ⟨g, cs, rfl, hgB, hG, hcs⟩ := hbx
      have esrc := f7 (hp 7 (by decide))
      simp only [agg3] at esrc
      subst esrc
      have hf := block_free hG
      have hgl := block_lt hG
      have hc3 := BoxP.cells hG hcs
      obtain ⟨u0, u1, u2, y0, y1, y2⟩ := hc3
      have HF := Lib.hid (show _ from (⟨f0, f1, f2, f3, f4, f5, f6, f7, f8, f9, f10, f11, f12, f13, e8x9, e8x10, e9x10⟩ : _ ∧ _ ∧ _ ∧ _ ∧ _ ∧ _ ∧ _ ∧ _ ∧ _ ∧ _ ∧ _ ∧ _ ∧ _ ∧ _ ∧ _ ∧ _ ∧ _))
      clear f0 f1 f2 f3 f4 f5 f6 f7 f8 f9 f10 f11 f12 f13 e8x9 e8x10 e9x10
      rw [if_pos (by rfl)]
      simp only [ha, Act.put, List.setIfInBounds_toArray, List.set_cons_zero, List.set_cons_succ]
      clear ha
      go_simp
      obtain ⟨f0, f1, f2, f3, f4, f5, f6, f7, f8, f9, f10, f11, f12, f13, e8x9, e8x10, e9x10⟩ := HF.out
      refine hK.out _ _ ?_
      refine (paysI_mk v21 v22 v23 v24 v25 v26 v27 (agg3 (d0, d1, d2)) v8 v9 (.pointer (some ⟨g, 0, none⟩)) ?_ (((hb.setCell hgB _).setCell hgB _).setCell hgB _) ?_ ?_ ?_ ?_ ?_ ?_ ?_ ?_ ?_ ?_ ?_ ?_ ?_ ?_ ?_ ?_ ?_)
      · simp only [Act.put, agg3, List.setIfInBounds_toArray, List.set_cons_zero, List.set_cons_succ]
      · exact fun h => f0 (listed_ne h (by decide))
      · exact fun h => f1 (listed_ne h (by decide))
      · exact fun h => f2 (listed_ne h (by decide))
      · exact fun h => f3 (listed_ne h (by decide))
      · exact fun h => f4 (listed_ne h (by decide))
      · exact fun h => f5 (listed_ne h (by decide))
      · exact fun h => f6 (listed_ne h (by decide))
      · exact fun h => f7 (listed_ne h (by decide))
      · exact fun h => (f8 (listed_ne h (by decide))).set g _ _ _
      · exact fun h => (f9 (listed_ne h (by decide))).set g _ _ _
      · exact fun h => (f10 (listed_ne h (by decide))).set g _ _ _
      · exact fun h => ⟨listed_in (f11 (listed_ne h (by decide))).1, (f11 (listed_ne h (by decide))).2.set g _ _ _ (e8x10 (hp 8 (by decide)) (hp 10 (by decide)))⟩
      · exact fun h => ⟨listed_in (f12 (listed_ne h (by decide))).1, (f12 (listed_ne h (by decide))).2.set g _ _ _ (e9x10 (hp 9 (by decide)) (hp 10 (by decide)))⟩
      · exact fun _ => ⟨listed_in (hp 10 (by decide)), HoldsP.new hgB hG hcs (d0, d1, d2)⟩
      · exact fun h h' => e8x9 (listed_ne h (by decide)) (listed_ne h' (by decide))
      · exact fun h h' => e8x10 (listed_ne h (by decide)) (listed_ne h' (by decide))
      · exact fun h h' => e9x10 (listed_ne h (by decide)) (listed_ne h' (by decide))
    exact StepsI.nil
    
  · intro L aa x hp hI
    obtain ⟨v21, v22, v23, v24, v25, v26, v27, v28, v8, v9, v10, ha, hb, -, -, -, -, -, -, -, -, -, -, -, f11, f12, f13, e89, e810, e910⟩ := hI
    obtain ⟨g8, e8, hg8, h8⟩ := (f11 (hp 11 (by decide))).2
    obtain ⟨g9, e9, hg9, h9⟩ := (f12 (hp 12 (by decide))).2
    obtain ⟨g10, e10, hg10, h10⟩ := (f13 (hp 13 (by decide))).2
    try simp only at h8 h9 h10
    have hlaw := Hlaw.out
    try simp only at hlaw
    obtain ⟨l1, l2, l3, l4, l5, l6, l7⟩ := hlaw
    have s1 : IntKind.i64.wrap (a0 + a1) = a0 + a1 := IntWalk.i64_in _ (by omega)
    have s2 : IntKind.i64.wrap (a0 + a1 + a2) = a0 + a1 + a2 := IntWalk.i64_in _ (by omega)
    have s3 : IntKind.i64.wrap (b0 + b1') = b0 + b1' := IntWalk.i64_in _ (by omega)
    have s4 : IntKind.i64.wrap (b0 + b1' + b2') = b0 + b1' + b2' := IntWalk.i64_in _ (by omega)
    have s5 : IntKind.i64.wrap (d0 + d1) = d0 + d1 := IntWalk.i64_in _ (by omega)
    have t1 : (a0 + a1 + a2 != p.total) = false := by rw [l1]; simp
    have t2 : (b0 + b1' + b2' != p.total) = false := by rw [l2]; simp
    have t3 : (d0 + d1 != p.total) = false := by rw [l3]; simp
    have t4 : (d2 != 0) = false := by rw [l4]; rfl
    have m1 : decide (a0 ≤ b0) = true := decide_eq_true l5
    have m2 : decide (a1 ≤ b1') = true := decide_eq_true l6
    have m3 : decide (b2' ≤ a2) = true := decide_eq_true l7
    have HXx := Lib.hid (block_below HXr.out hb HXl.out)
    have HAx := Lib.hid (HAr.out.up hb)
    have HBx := Lib.hid (Hb2.out.trans (hb.mono Hb2.out.size))
    have h8l := block_lt h8; have h9l := block_lt h9; have h10l := block_lt h10
    have hxl := block_lt HXx.out
    have HS := Lib.hid (show (x.cell? ⟨w2.heap.size, 0, none⟩ = some (.int .u8 (p.nm.x0 : Int)) ∧ x.cell? ⟨w2.heap.size, 1, none⟩ = some (.int .u8 (p.nm.x1 : Int)) ∧ x.cell? ⟨w2.heap.size, 2, none⟩ = some (.int .u8 (p.nm.x2 : Int)) ∧ x.cell? ⟨w2.heap.size, 3, none⟩ = some (.int .u8 (p.nm.x3 : Int)) ∧ x.cell? ⟨w2.heap.size, 4, none⟩ = some (.int .u8 (p.nm.x4 : Int)) ∧ x.cell? ⟨w2.heap.size, 5, none⟩ = some (.int .u8 (p.nm.x5 : Int)) ∧ x.cell? ⟨w2.heap.size, 6, none⟩ = some (.int .u8 (p.nm.x6 : Int)) ∧ x.cell? ⟨w2.heap.size, 7, none⟩ = some (.int .u8 (p.nm.x7 : Int)) ∧ x.cell? ⟨w2.heap.size, 8, none⟩ = some (.int .i64 p.no) ∧ x.cell? ⟨w2.heap.size, 9, none⟩ = some (.int .i64 p.h0) ∧ x.cell? ⟨w2.heap.size, 10, none⟩ = some (.int .i64 p.h1) ∧ x.cell? ⟨w2.heap.size, 11, none⟩ = some (.slice A2 n2 c2)) ∧ (x.cell? ⟨g8, 0, none⟩ = some (.int .i64 a0) ∧ x.cell? ⟨g8, 1, none⟩ = some (.int .i64 a1) ∧ x.cell? ⟨g8, 2, none⟩ = some (.int .i64 a2)) ∧ (x.cell? ⟨g9, 0, none⟩ = some (.int .i64 b0) ∧ x.cell? ⟨g9, 1, none⟩ = some (.int .i64 b1') ∧ x.cell? ⟨g9, 2, none⟩ = some (.int .i64 b2')) ∧ (x.cell? ⟨g10, 0, none⟩ = some (.int .i64 d0) ∧ x.cell? ⟨g10, 1, none⟩ = some (.int .i64 d1) ∧ x.cell? ⟨g10, 2, none⟩ = some (.int .i64 d2)) from
      ⟨PBox.all HXx.out, ⟨block_cell h8 0, block_cell h8 1, block_cell h8 2⟩, ⟨block_cell h9 0, block_cell h9 1, block_cell h9 2⟩, ⟨block_cell h10 0, block_cell h10 1, block_cell h10 2⟩⟩)
    have hz3 : w2.heap.size < x.heap.size := hxl
    clear hp f11 f12 f13 e89 e810 e910 l1 l2 l3 l4 l5 l6 l7 h8 h9 h10 hb hg8 hg9 hg10 hxl
    simp only [ha, e8, e9, e10, Act.put, List.setIfInBounds_toArray, List.set_cons_zero, List.set_cons_succ]
    clear ha e8 e9 e10
    generalize w2.heap.size = gx at *
    go_wp2
    go_region_held3 (fun w' => (w'.cell? ⟨gx, 0, none⟩ = some (.int .u8 (p.nm.x0 : Int)) ∧ w'.cell? ⟨gx, 1, none⟩ = some (.int .u8 (p.nm.x1 : Int)) ∧ w'.cell? ⟨gx, 2, none⟩ = some (.int .u8 (p.nm.x2 : Int)) ∧ w'.cell? ⟨gx, 3, none⟩ = some (.int .u8 (p.nm.x3 : Int)) ∧ w'.cell? ⟨gx, 4, none⟩ = some (.int .u8 (p.nm.x4 : Int)) ∧ w'.cell? ⟨gx, 5, none⟩ = some (.int .u8 (p.nm.x5 : Int)) ∧ w'.cell? ⟨gx, 6, none⟩ = some (.int .u8 (p.nm.x6 : Int)) ∧ w'.cell? ⟨gx, 7, none⟩ = some (.int .u8 (p.nm.x7 : Int)) ∧ w'.cell? ⟨gx, 8, none⟩ = some (.int .i64 p.no) ∧ w'.cell? ⟨gx, 9, none⟩ = some (.int .i64 p.h0) ∧ w'.cell? ⟨gx, 10, none⟩ = some (.int .i64 p.h1) ∧ w'.cell? ⟨gx, 11, none⟩ = some (.slice A2 n2 c2)) ∧ (w'.cell? ⟨g8, 0, none⟩ = some (.int .i64 a0) ∧ w'.cell? ⟨g8, 1, none⟩ = some (.int .i64 a1) ∧ w'.cell? ⟨g8, 2, none⟩ = some (.int .i64 a2)) ∧ (w'.cell? ⟨g9, 0, none⟩ = some (.int .i64 b0) ∧ w'.cell? ⟨g9, 1, none⟩ = some (.int .i64 b1') ∧ w'.cell? ⟨g9, 2, none⟩ = some (.int .i64 b2')) ∧ (w'.cell? ⟨g10, 0, none⟩ = some (.int .i64 d0) ∧ w'.cell? ⟨g10, 1, none⟩ = some (.int .i64 d1) ∧ w'.cell? ⟨g10, 2, none⟩ = some (.int .i64 d2)))
      (first | with_reducible exact HS3.out | with_reducible exact HS2.out | with_reducible exact HS1.out | exact HS.out)
      (first
       | (have _g := HS2; clear _g; go_at_call 15; go_must (refine (total_any p A2 n2 c2 _ HA2'.out).mono ?_; rintro e x3 ⟨rfl, hb3⟩; have HS3 := Lib.hid (psq_below hb3 hz22.out hz82.out hz92.out hz102.out HS2.out); have Hb3 := Lib.hid (Hb2'.out.trans (hb3.mono Hb2'.out.size)); clear hb3))
       | (have _g := HS1; clear _g; go_at_call 15; go_must (refine (total_any p A2 n2 c2 _ HA1'.out).mono ?_; rintro e x2 ⟨rfl, hb2⟩; have HS2 := Lib.hid (psq_below hb2 hz21.out hz81.out hz91.out hz101.out HS1.out); have Hb2' := Lib.hid (Hb1'.out.trans (hb2.mono Hb1'.out.size)); have HA2' := Lib.hid (HA1'.out.up hb2); have hz22 := Lib.hid (Nat.lt_of_lt_of_le hz21.out hb2.size); have hz82 := Lib.hid (Nat.lt_of_lt_of_le hz81.out hb2.size); have hz92 := Lib.hid (Nat.lt_of_lt_of_le hz91.out hb2.size); have hz102 := Lib.hid (Nat.lt_of_lt_of_le hz101.out hb2.size); clear hb2))
       | (go_at_call 15; go_must (refine (total_any p A2 n2 c2 _ HAx.out.drew).mono ?_; rintro e x1 ⟨rfl, hbd⟩; have hb1 : Below x.heap.size x x1 := ((Below.refl x.heap.size x).drew).trans hbd; have HS1 := Lib.hid (psq_below hb1 hz3 h8l h9l h10l HS.out); have Hb1' := Lib.hid (HBx.out.trans (hb1.mono HBx.out.size)); have HA1' := Lib.hid (HAx.out.up hb1); have hz21 := Lib.hid (Nat.lt_of_lt_of_le hz3 hb1.size); have hz81 := Lib.hid (Nat.lt_of_lt_of_le h8l hb1.size); have hz91 := Lib.hid (Nat.lt_of_lt_of_le h9l hb1.size); have hz101 := Lib.hid (Nat.lt_of_lt_of_le h10l hb1.size); clear hb1 hbd)))
    have HSf := HS3.out
    obtain ⟨-, ⟨q0, q1, q2⟩, ⟨q3, q4, q5⟩, -⟩ := HSf
    go_wp2_with (go_at_call 12; refine (told_any _).mono ?_; rintro e w6 ⟨rfl, hb6⟩; have Hb6 := Lib.hid (Hb3.out.trans (hb6.mono Hb3.out.size)); clear hb6)
    go_ret
    exact ⟨rfl, Hb6.out⟩
end Go.Proofs.Ytjiecnoplnaahaa
