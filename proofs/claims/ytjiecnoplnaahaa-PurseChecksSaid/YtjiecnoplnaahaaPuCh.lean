/- The walk of PurseChecks. Conditions: bounds. -/
import Derived.Test.YtjiecnoplnaahaaPuChA
import Derived.Test.YtjiecnoplnaahaaInv
import Derived.Deep.RegionHeld3
import Derived.Deep.RegionLaw
import Derived.Deep.DeepCutAuto
namespace Go.Proofs.Ytjiecnoplnaahaa
open Go.RowKit Go.Lib



set_option maxRecDepth 100000 in
set_option maxHeartbeats 4000000 in
theorem purseChecks_any (p o : Pu) (A A' : Option Addr) (n c n' c' : Nat) (now : Int) (w : World) (hr : Rd w w.heap.size 11 A n (flatH p.held)) (hcap : n ≤ c) (hr' : Rd w w.heap.size 11 A' n' (flatH o.held)) (hcap' : n' ≤ c') :
    Calls Try.prog 7 #[.agg #[.int .u8 (p.nm.x0 : Int), .int .u8 (p.nm.x1 : Int), .int .u8 (p.nm.x2 : Int), .int .u8 (p.nm.x3 : Int), .int .u8 (p.nm.x4 : Int), .int .u8 (p.nm.x5 : Int), .int .u8 (p.nm.x6 : Int), .int .u8 (p.nm.x7 : Int), .int .i64 p.no, .int .i64 p.h0, .int .i64 p.h1, .slice A n c], .agg #[.int .u8 (o.nm.x0 : Int), .int .u8 (o.nm.x1 : Int), .int .u8 (o.nm.x2 : Int), .int .u8 (o.nm.x3 : Int), .int .u8 (o.nm.x4 : Int), .int .u8 (o.nm.x5 : Int), .int .u8 (o.nm.x6 : Int), .int .u8 (o.nm.x7 : Int), .int .i64 o.no, .int .i64 o.h0, .int .i64 o.h1, .slice A' n' c'], .int .i64 now] w fun e w' => e = .returned (.bool true) ∧ Below w.heap.size w w' := by
  have Hb0 : Hid (Below w.heap.size w ((w.alloc (.cells #[.int .u8 (p.nm.x0 : Int), .int .u8 (p.nm.x1 : Int), .int .u8 (p.nm.x2 : Int), .int .u8 (p.nm.x3 : Int), .int .u8 (p.nm.x4 : Int), .int .u8 (p.nm.x5 : Int), .int .u8 (p.nm.x6 : Int), .int .u8 (p.nm.x7 : Int), .int .i64 p.no, .int .i64 p.h0, .int .i64 p.h1, .slice A n c] 26)).alloc (.cells #[.int .u8 (o.nm.x0 : Int), .int .u8 (o.nm.x1 : Int), .int .u8 (o.nm.x2 : Int), .int .u8 (o.nm.x3 : Int), .int .u8 (o.nm.x4 : Int), .int .u8 (o.nm.x5 : Int), .int .u8 (o.nm.x6 : Int), .int .u8 (o.nm.x7 : Int), .int .i64 o.no, .int .i64 o.h0, .int .i64 o.h1, .slice A' n' c'] 26))) := below_two w _ _
  have HXp0 : Hid (((w.alloc (.cells #[.int .u8 (p.nm.x0 : Int), .int .u8 (p.nm.x1 : Int), .int .u8 (p.nm.x2 : Int), .int .u8 (p.nm.x3 : Int), .int .u8 (p.nm.x4 : Int), .int .u8 (p.nm.x5 : Int), .int .u8 (p.nm.x6 : Int), .int .u8 (p.nm.x7 : Int), .int .i64 p.no, .int .i64 p.h0, .int .i64 p.h1, .slice A n c] 26)).alloc (.cells #[.int .u8 (o.nm.x0 : Int), .int .u8 (o.nm.x1 : Int), .int .u8 (o.nm.x2 : Int), .int .u8 (o.nm.x3 : Int), .int .u8 (o.nm.x4 : Int), .int .u8 (o.nm.x5 : Int), .int .u8 (o.nm.x6 : Int), .int .u8 (o.nm.x7 : Int), .int .i64 o.no, .int .i64 o.h0, .int .i64 o.h1, .slice A' n' c'] 26)).heap[w.heap.size]? = some (.cells #[.int .u8 (p.nm.x0 : Int), .int .u8 (p.nm.x1 : Int), .int .u8 (p.nm.x2 : Int), .int .u8 (p.nm.x3 : Int), .int .u8 (p.nm.x4 : Int), .int .u8 (p.nm.x5 : Int), .int .u8 (p.nm.x6 : Int), .int .u8 (p.nm.x7 : Int), .int .i64 p.no, .int .i64 p.h0, .int .i64 p.h1, .slice A n c] 26 (0, 0))) := block_alloc (heap_alloc_new w _) _
  have HXo0 : Hid (((w.alloc (.cells #[.int .u8 (p.nm.x0 : Int), .int .u8 (p.nm.x1 : Int), .int .u8 (p.nm.x2 : Int), .int .u8 (p.nm.x3 : Int), .int .u8 (p.nm.x4 : Int), .int .u8 (p.nm.x5 : Int), .int .u8 (p.nm.x6 : Int), .int .u8 (p.nm.x7 : Int), .int .i64 p.no, .int .i64 p.h0, .int .i64 p.h1, .slice A n c] 26)).alloc (.cells #[.int .u8 (o.nm.x0 : Int), .int .u8 (o.nm.x1 : Int), .int .u8 (o.nm.x2 : Int), .int .u8 (o.nm.x3 : Int), .int .u8 (o.nm.x4 : Int), .int .u8 (o.nm.x5 : Int), .int .u8 (o.nm.x6 : Int), .int .u8 (o.nm.x7 : Int), .int .i64 o.no, .int .i64 o.h0, .int .i64 o.h1, .slice A' n' c'] 26)).heap[w.heap.size + 1]? = some (.cells #[.int .u8 (o.nm.x0 : Int), .int .u8 (o.nm.x1 : Int), .int .u8 (o.nm.x2 : Int), .int .u8 (o.nm.x3 : Int), .int .u8 (o.nm.x4 : Int), .int .u8 (o.nm.x5 : Int), .int .u8 (o.nm.x6 : Int), .int .u8 (o.nm.x7 : Int), .int .i64 o.no, .int .i64 o.h0, .int .i64 o.h1, .slice A' n' c'] 26 (0, 0))) := alloc_at (by simp)
  by_cases h40 : 40 < n
  · have b1 : decide (40 < n) = true := decide_eq_true h40
    obtain ⟨z0, z1, z2, z3, z4, z5, z6, z7, z8, z9, z10, z11⟩ := PBox.all HXp0.out
    clear hr hcap hr' hcap' h40
    go_enter Try.func7, Try.ntmps7
    go_wp2_with (first | (go_at_call 11; refine (great_any _ _ _ _ _).mono ?_; rintro e w1 ⟨rfl, hb1⟩; have Hb1 := Lib.hid (Hb0.out.trans (hb1.mono Hb0.out.size)); clear hb1) | (go_at_call 12; refine (told_any _).mono ?_; rintro e w2 ⟨rfl, hb2⟩; have Hb2 := Lib.hid (Hb1.out.trans (hb2.mono Hb1.out.size)); clear hb2))
    go_ret
    exact ⟨rfl, Hb2.out⟩
  have b1 : decide (40 < n) = false := decide_eq_false h40
  have HAp0 := Lib.hid ((show PuV.At p A n c w from ⟨hr, hcap, by omega⟩).up Hb0.out)
  clear hr hcap
  by_cases h40' : 40 < n'
  · have b2 : decide (40 < n') = true := decide_eq_true h40'
    clear hr' hcap' h40 h40'
    go_enter Try.func7, Try.ntmps7
    go_wp2_with fail
    generalize ((w.alloc (.cells #[.int .u8 (p.nm.x0 : Int), .int .u8 (p.nm.x1 : Int), .int .u8 (p.nm.x2 : Int), .int .u8 (p.nm.x3 : Int), .int .u8 (p.nm.x4 : Int), .int .u8 (p.nm.x5 : Int), .int .u8 (p.nm.x6 : Int), .int .u8 (p.nm.x7 : Int), .int .i64 p.no, .int .i64 p.h0, .int .i64 p.h1, .slice A n c] 26)).alloc (.cells #[.int .u8 (o.nm.x0 : Int), .int .u8 (o.nm.x1 : Int), .int .u8 (o.nm.x2 : Int), .int .u8 (o.nm.x3 : Int), .int .u8 (o.nm.x4 : Int), .int .u8 (o.nm.x5 : Int), .int .u8 (o.nm.x6 : Int), .int .u8 (o.nm.x7 : Int), .int .i64 o.no, .int .i64 o.h0, .int .i64 o.h1, .slice A' n' c'] 26)) = wa at *
    refine (great_any p A n c _).mono ?_
    rintro e w1 ⟨rfl, hb⟩
    have HXo := Lib.hid (block_below HXo0.out hb (block_lt HXo0.out))
    have Hbel := Lib.hid (Hb0.out.trans (hb.mono Hb0.out.size))
    clear hb
    obtain ⟨z0, z1, z2, z3, z4, z5, z6, z7, z8, z9, z10, z11⟩ := PBox.all HXo.out
    go_wp2_with fail
    refine (great_any o A' n' c' _).mono ?_
    rintro e w2 ⟨rfl, hb⟩
    have Hb1 := Lib.hid (Hbel.out.trans (hb.mono Hbel.out.size))
    clear hb z0 z1 z2 z3 z4 z5 z6 z7 z8 z9 z10 z11
    go_wp2_with (go_at_call 12; refine (told_any _).mono ?_; rintro e w3 ⟨rfl, hb⟩; have Hb2 := Lib.hid (Hb1.out.trans (hb.mono Hb1.out.size)); clear hb)
    go_ret
    exact ⟨rfl, Hb2.out⟩
  have b2 : decide (40 < n') = false := decide_eq_false h40'
  have HAo0 := Lib.hid ((show PuV.At o A' n' c' w from ⟨hr', hcap', by omega⟩).up Hb0.out)
  have Hl := Lib.hid hr'.hlen
  have Hlo : Hid (o.held.length ≤ 1000000) := Lib.hid (by have := Hl.out; omega)
  clear hr' hcap'
  have Hfind := Lib.hid (fun d => placeL_yes (l := p.held) (n := d))
  have Hlp := Lib.hid HAp0.out.rd.hlen
  have hn3 := neq_three_same
  have hnh := neq_held_same
  have hnz := neq_held_zero
  have hfh := run_field_held
  go_enter Try.func7, Try.ntmps7
  go_wp2_with fail
  generalize ((w.alloc (.cells #[.int .u8 (p.nm.x0 : Int), .int .u8 (p.nm.x1 : Int), .int .u8 (p.nm.x2 : Int), .int .u8 (p.nm.x3 : Int), .int .u8 (p.nm.x4 : Int), .int .u8 (p.nm.x5 : Int), .int .u8 (p.nm.x6 : Int), .int .u8 (p.nm.x7 : Int), .int .i64 p.no, .int .i64 p.h0, .int .i64 p.h1, .slice A n c] 26)).alloc (.cells #[.int .u8 (o.nm.x0 : Int), .int .u8 (o.nm.x1 : Int), .int .u8 (o.nm.x2 : Int), .int .u8 (o.nm.x3 : Int), .int .u8 (o.nm.x4 : Int), .int .u8 (o.nm.x5 : Int), .int .u8 (o.nm.x6 : Int), .int .u8 (o.nm.x7 : Int), .int .i64 o.no, .int .i64 o.h0, .int .i64 o.h1, .slice A' n' c'] 26)) = wa at *
  refine (great_any p A n c _).mono ?_
  rintro e w1 ⟨rfl, hb⟩
  have HXp := Lib.hid (block_below HXp0.out hb (block_lt HXp0.out))
  have HXo := Lib.hid (block_below HXo0.out hb (block_lt HXo0.out))
  have HAp := Lib.hid (HAp0.out.up hb)
  have HAo := Lib.hid (HAo0.out.up hb)
  have Hbel := Lib.hid (Hb0.out.trans (hb.mono Hb0.out.size))
  clear hb HXp0 HXo0 HAp0 HAo0 Hb0
  obtain ⟨z0, z1, z2, z3, z4, z5, z6, z7, z8, z9, z10, z11⟩ := PBox.all HXo.out
  go_wp2_with fail
  refine (great_any o A' n' c' _).mono ?_
  rintro e w2 ⟨rfl, hb⟩
  replace HXp := Lib.hid (block_below HXp.out hb (block_lt HXp.out))
  replace HXo := Lib.hid (block_below HXo.out hb (block_lt HXo.out))
  replace HAp := Lib.hid (HAp.out.up hb)
  replace HAo := Lib.hid (HAo.out.up hb)
  replace Hbel := Lib.hid (Hbel.out.trans (hb.mono Hbel.out.size))
  clear hb z0 z1 z2 z3 z4 z5 z6 z7 z8 z9 z10 z11
  obtain ⟨z0, z1, z2, z3, z4, z5, z6, z7, z8, z9, z10, z11⟩ := PBox.all HXp.out
  go_wp2_with fail
  refine ((own_any p A n c w2 HAp.out).mono fun _ _ h => atPu h (by have := Hlp.out; omega)).mono ?_
  rintro e w3 ⟨A2, n2, c2, rfl, ha, hb⟩
  have hgp2 := Lib.hid (block_lt HXo.out)
  have hb' := hb.alloc hb.size (.cells #[.int .u8 (p.nm.x0 : Int), .int .u8 (p.nm.x1 : Int), .int .u8 (p.nm.x2 : Int), .int .u8 (p.nm.x3 : Int), .int .u8 (p.nm.x4 : Int), .int .u8 (p.nm.x5 : Int), .int .u8 (p.nm.x6 : Int), .int .u8 (p.nm.x7 : Int), .int .i64 p.no, .int .i64 p.h0, .int .i64 p.h1, .slice A2 n2 c2] 32)
  have HXx := Lib.hid (heap_alloc_new w3 (.cells #[.int .u8 (p.nm.x0 : Int), .int .u8 (p.nm.x1 : Int), .int .u8 (p.nm.x2 : Int), .int .u8 (p.nm.x3 : Int), .int .u8 (p.nm.x4 : Int), .int .u8 (p.nm.x5 : Int), .int .u8 (p.nm.x6 : Int), .int .u8 (p.nm.x7 : Int), .int .i64 p.no, .int .i64 p.h0, .int .i64 p.h1, .slice A2 n2 c2] 32))
  replace HXp := Lib.hid (block_below HXp.out hb' (block_lt HXp.out))
  replace HXo := Lib.hid (block_below HXo.out hb' (block_lt HXo.out))
  have HAx := Lib.hid (ha.up (below_one w3 (.cells #[.int .u8 (p.nm.x0 : Int), .int .u8 (p.nm.x1 : Int), .int .u8 (p.nm.x2 : Int), .int .u8 (p.nm.x3 : Int), .int .u8 (p.nm.x4 : Int), .int .u8 (p.nm.x5 : Int), .int .u8 (p.nm.x6 : Int), .int .u8 (p.nm.x7 : Int), .int .i64 p.no, .int .i64 p.h0, .int .i64 p.h1, .slice A2 n2 c2] 32)))
  replace HAp := Lib.hid (HAp.out.up hb')
  replace HAo := Lib.hid (HAo.out.up hb')
  replace Hbel := Lib.hid (Hbel.out.trans (hb'.mono Hbel.out.size))
  have hgp : Hid (w.heap.size + 1 < w3.heap.size) := Lib.hid (Nat.lt_of_lt_of_le hgp2.out hb.size)
  clear hb hb' ha z0 z1 z2 z3 z4 z5 z6 z7 z8 z9 z10 z11
  go_upto_region 4 with fail
  generalize w3.alloc (.cells #[.int .u8 (p.nm.x0 : Int), .int .u8 (p.nm.x1 : Int), .int .u8 (p.nm.x2 : Int), .int .u8 (p.nm.x3 : Int), .int .u8 (p.nm.x4 : Int), .int .u8 (p.nm.x5 : Int), .int .u8 (p.nm.x6 : Int), .int .u8 (p.nm.x7 : Int), .int .i64 p.no, .int .i64 p.h0, .int .i64 p.h1, .slice A2 n2 c2] 32) = wd at *
  generalize w3.heap.size = gx at *
  go_cut [54] (fun s54 wx => s54 = .bool false ∧ Below wd.heap.size wd wx)
  case first =>
    have HB4 : Hid (Below wd.heap.size wd wd.drew) := Lib.hid (Below.refl _ _).drew
    have hself : (p.same o != p.same o) = false := by simp
    have hself1 : (p.check != p.check) = false := by simp
    have hself2 : (p.total != p.total) = false := by simp
    replace HXx := Lib.hid (show wd.drew.heap[gx]? = _ from HXx.out)
    replace HXp := Lib.hid (show wd.drew.heap[w.heap.size]? = _ from HXp.out)
    replace HXo := Lib.hid (show wd.drew.heap[w.heap.size + 1]? = _ from HXo.out)
    replace HAx := Lib.hid HAx.out.drew
    replace HAp := Lib.hid HAp.out.drew
    replace HAo := Lib.hid HAo.out.drew
    replace Hbel := Lib.hid Hbel.out.drew
    go_region_held3 (fun w' => (w'.cell? ⟨gx, 0, none⟩ = some (.int .u8 (p.nm.x0 : Int)) ∧ w'.cell? ⟨gx, 1, none⟩ = some (.int .u8 (p.nm.x1 : Int)) ∧ w'.cell? ⟨gx, 2, none⟩ = some (.int .u8 (p.nm.x2 : Int)) ∧ w'.cell? ⟨gx, 3, none⟩ = some (.int .u8 (p.nm.x3 : Int)) ∧ w'.cell? ⟨gx, 4, none⟩ = some (.int .u8 (p.nm.x4 : Int)) ∧ w'.cell? ⟨gx, 5, none⟩ = some (.int .u8 (p.nm.x5 : Int)) ∧ w'.cell? ⟨gx, 6, none⟩ = some (.int .u8 (p.nm.x6 : Int)) ∧ w'.cell? ⟨gx, 7, none⟩ = some (.int .u8 (p.nm.x7 : Int)) ∧ w'.cell? ⟨gx, 8, none⟩ = some (.int .i64 p.no) ∧ w'.cell? ⟨gx, 9, none⟩ = some (.int .i64 p.h0) ∧ w'.cell? ⟨gx, 10, none⟩ = some (.int .i64 p.h1) ∧ w'.cell? ⟨gx, 11, none⟩ = some (.slice A2 n2 c2)) ∧ (w'.cell? ⟨w.heap.size, 0, none⟩ = some (.int .u8 (p.nm.x0 : Int)) ∧ w'.cell? ⟨w.heap.size, 1, none⟩ = some (.int .u8 (p.nm.x1 : Int)) ∧ w'.cell? ⟨w.heap.size, 2, none⟩ = some (.int .u8 (p.nm.x2 : Int)) ∧ w'.cell? ⟨w.heap.size, 3, none⟩ = some (.int .u8 (p.nm.x3 : Int)) ∧ w'.cell? ⟨w.heap.size, 4, none⟩ = some (.int .u8 (p.nm.x4 : Int)) ∧ w'.cell? ⟨w.heap.size, 5, none⟩ = some (.int .u8 (p.nm.x5 : Int)) ∧ w'.cell? ⟨w.heap.size, 6, none⟩ = some (.int .u8 (p.nm.x6 : Int)) ∧ w'.cell? ⟨w.heap.size, 7, none⟩ = some (.int .u8 (p.nm.x7 : Int)) ∧ w'.cell? ⟨w.heap.size, 8, none⟩ = some (.int .i64 p.no) ∧ w'.cell? ⟨w.heap.size, 9, none⟩ = some (.int .i64 p.h0) ∧ w'.cell? ⟨w.heap.size, 10, none⟩ = some (.int .i64 p.h1) ∧ w'.cell? ⟨w.heap.size, 11, none⟩ = some (.slice A n c)) ∧ (w'.cell? ⟨(w.heap.size + 1), 0, none⟩ = some (.int .u8 (o.nm.x0 : Int)) ∧ w'.cell? ⟨(w.heap.size + 1), 1, none⟩ = some (.int .u8 (o.nm.x1 : Int)) ∧ w'.cell? ⟨(w.heap.size + 1), 2, none⟩ = some (.int .u8 (o.nm.x2 : Int)) ∧ w'.cell? ⟨(w.heap.size + 1), 3, none⟩ = some (.int .u8 (o.nm.x3 : Int)) ∧ w'.cell? ⟨(w.heap.size + 1), 4, none⟩ = some (.int .u8 (o.nm.x4 : Int)) ∧ w'.cell? ⟨(w.heap.size + 1), 5, none⟩ = some (.int .u8 (o.nm.x5 : Int)) ∧ w'.cell? ⟨(w.heap.size + 1), 6, none⟩ = some (.int .u8 (o.nm.x6 : Int)) ∧ w'.cell? ⟨(w.heap.size + 1), 7, none⟩ = some (.int .u8 (o.nm.x7 : Int)) ∧ w'.cell? ⟨(w.heap.size + 1), 8, none⟩ = some (.int .i64 o.no) ∧ w'.cell? ⟨(w.heap.size + 1), 9, none⟩ = some (.int .i64 o.h0) ∧ w'.cell? ⟨(w.heap.size + 1), 10, none⟩ = some (.int .i64 o.h1) ∧ w'.cell? ⟨(w.heap.size + 1), 11, none⟩ = some (.slice A' n' c')))
      (exact ⟨PBox.all HXx.out, PBox.all HXp.out, PBox.all HXo.out⟩)
      (first
       | (go_at_call 21; go_must (refine (pcheck_any p A2 n2 c2 _ HAx.out).mono ?_; rintro e v1 ⟨rfl, hb⟩; (replace HXx := Lib.hid (block_below HXx.out hb (block_lt HXx.out)); replace HXp := Lib.hid (block_below HXp.out hb (block_lt HXp.out)); replace HXo := Lib.hid (block_below HXo.out hb (block_lt HXo.out)); replace HAx := Lib.hid (HAx.out.up hb); replace HAp := Lib.hid (HAp.out.up hb); replace HAo := Lib.hid (HAo.out.up hb); replace Hbel := Lib.hid (Hbel.out.trans (hb.mono Hbel.out.size))); replace HB4 := Lib.hid (HB4.out.trans (hb.mono HB4.out.size)); clear hb))
       | (go_at_call 24; go_must (refine (checkr_any p A n c _ HAp.out).mono ?_; rintro e v2 ⟨rfl, hb⟩; (replace HXx := Lib.hid (block_below HXx.out hb (block_lt HXx.out)); replace HXp := Lib.hid (block_below HXp.out hb (block_lt HXp.out)); replace HXo := Lib.hid (block_below HXo.out hb (block_lt HXo.out)); replace HAx := Lib.hid (HAx.out.up hb); replace HAp := Lib.hid (HAp.out.up hb); replace HAo := Lib.hid (HAo.out.up hb); replace Hbel := Lib.hid (Hbel.out.trans (hb.mono Hbel.out.size))); replace HB4 := Lib.hid (HB4.out.trans (hb.mono HB4.out.size)); clear hb))
       | (go_at_call 15; go_must (refine (total_any p A2 n2 c2 _ HAx.out).mono ?_; rintro e v3 ⟨rfl, hb⟩; (replace HXx := Lib.hid (block_below HXx.out hb (block_lt HXx.out)); replace HXp := Lib.hid (block_below HXp.out hb (block_lt HXp.out)); replace HXo := Lib.hid (block_below HXo.out hb (block_lt HXo.out)); replace HAx := Lib.hid (HAx.out.up hb); replace HAp := Lib.hid (HAp.out.up hb); replace HAo := Lib.hid (HAo.out.up hb); replace Hbel := Lib.hid (Hbel.out.trans (hb.mono Hbel.out.size))); replace HB4 := Lib.hid (HB4.out.trans (hb.mono HB4.out.size)); clear hb))
       | (go_at_call 25; go_must (refine (totalr_any p A n c _ HAp.out).mono ?_; rintro e v4 ⟨rfl, hb⟩; (replace HXx := Lib.hid (block_below HXx.out hb (block_lt HXx.out)); replace HXp := Lib.hid (block_below HXp.out hb (block_lt HXp.out)); replace HXo := Lib.hid (block_below HXo.out hb (block_lt HXo.out)); replace HAx := Lib.hid (HAx.out.up hb); replace HAp := Lib.hid (HAp.out.up hb); replace HAo := Lib.hid (HAo.out.up hb); replace Hbel := Lib.hid (Hbel.out.trans (hb.mono Hbel.out.size))); replace HB4 := Lib.hid (HB4.out.trans (hb.mono HB4.out.size)); clear hb))
       | (go_at_call 14; go_must (refine (pays_any p A2 n2 c2 now _ HAx.out).mono ?_; rintro e v5 ⟨rfl, hb⟩; (replace HXx := Lib.hid (block_below HXx.out hb (block_lt HXx.out)); replace HXp := Lib.hid (block_below HXp.out hb (block_lt HXp.out)); replace HXo := Lib.hid (block_below HXo.out hb (block_lt HXo.out)); replace HAx := Lib.hid (HAx.out.up hb); replace HAp := Lib.hid (HAp.out.up hb); replace HAo := Lib.hid (HAo.out.up hb); replace Hbel := Lib.hid (Hbel.out.trans (hb.mono Hbel.out.size))); replace HB4 := Lib.hid (HB4.out.trans (hb.mono HB4.out.size)); clear hb))
       | (go_at_call 26; go_must (refine (paysr_any p A n c now _ HAp.out).mono ?_; rintro e v6 ⟨rfl, hb⟩; (replace HXx := Lib.hid (block_below HXx.out hb (block_lt HXx.out)); replace HXp := Lib.hid (block_below HXp.out hb (block_lt HXp.out)); replace HXo := Lib.hid (block_below HXo.out hb (block_lt HXo.out)); replace HAx := Lib.hid (HAx.out.up hb); replace HAp := Lib.hid (HAp.out.up hb); replace HAo := Lib.hid (HAo.out.up hb); replace Hbel := Lib.hid (Hbel.out.trans (hb.mono Hbel.out.size))); replace HB4 := Lib.hid (HB4.out.trans (hb.mono HB4.out.size)); clear hb))
       | (go_at_call 13; go_must (refine ((own_any o A' n' c' _ HAo.out).mono fun _ _ h => atPu h Hlo.out).mono ?_; rintro e v7 ⟨A3, n3, c3, rfl, ha3, hb⟩; (replace HXx := Lib.hid (block_below HXx.out hb (block_lt HXx.out)); replace HXp := Lib.hid (block_below HXp.out hb (block_lt HXp.out)); replace HXo := Lib.hid (block_below HXo.out hb (block_lt HXo.out)); replace HAx := Lib.hid (HAx.out.up hb); replace HAp := Lib.hid (HAp.out.up hb); replace HAo := Lib.hid (HAo.out.up hb); replace Hbel := Lib.hid (Hbel.out.trans (hb.mono Hbel.out.size))); replace HB4 := Lib.hid (HB4.out.trans (hb.mono HB4.out.size)); have HA3 := Lib.hid ha3; clear hb ha3))
       | (go_at_call 20; go_must (refine (psame_any p o A2 A3 n2 c2 n3 c3 _ HAx.out HA3.out).mono ?_; rintro e v8 ⟨rfl, hb⟩; (replace HXx := Lib.hid (block_below HXx.out hb (block_lt HXx.out)); replace HXp := Lib.hid (block_below HXp.out hb (block_lt HXp.out)); replace HXo := Lib.hid (block_below HXo.out hb (block_lt HXo.out)); replace HAx := Lib.hid (HAx.out.up hb); replace HAp := Lib.hid (HAp.out.up hb); replace HAo := Lib.hid (HAo.out.up hb); replace Hbel := Lib.hid (Hbel.out.trans (hb.mono Hbel.out.size))); replace HB4 := Lib.hid (HB4.out.trans (hb.mono HB4.out.size)); clear hb))
       | (go_at_call 18; go_must (refine (samer_any p o A A' n c n' c' _ HAp.out HAo.out).mono ?_; rintro e v9 ⟨rfl, hb⟩; (replace HXx := Lib.hid (block_below HXx.out hb (block_lt HXx.out)); replace HXp := Lib.hid (block_below HXp.out hb (block_lt HXp.out)); replace HXo := Lib.hid (block_below HXo.out hb (block_lt HXo.out)); replace HAx := Lib.hid (HAx.out.up hb); replace HAp := Lib.hid (HAp.out.up hb); replace HAo := Lib.hid (HAo.out.up hb); replace Hbel := Lib.hid (Hbel.out.trans (hb.mono Hbel.out.size))); replace HB4 := Lib.hid (HB4.out.trans (hb.mono HB4.out.size)); clear hb)))
    go_wp2_with fail
    go_meet
    exact ⟨rfl, HB4.out⟩
  case rest =>
    obtain ⟨rfl, hb⟩ := hcut
    (replace HXx := Lib.hid (block_below HXx.out hb (block_lt HXx.out)); replace HXp := Lib.hid (block_below HXp.out hb (block_lt HXp.out)); replace HXo := Lib.hid (block_below HXo.out hb (block_lt HXo.out)); replace HAx := Lib.hid (HAx.out.up hb); replace HAp := Lib.hid (HAp.out.up hb); replace HAo := Lib.hid (HAo.out.up hb); replace Hbel := Lib.hid (Hbel.out.trans (hb.mono Hbel.out.size)))
    clear hb
    go_wp2
    obtain ⟨wl, rfl⟩ : ∃ wl : World, wl = wc := ⟨_, rfl⟩
    go_loopw [8] (fun i wr => ∃ k : Nat, k ≤ n' ∧ i = .int .i64 (k : Int) ∧ Below wl.heap.size wl wr) (fun i _ => n' - (intOf i).toNat)
    case atStart => exact ⟨0, Nat.zero_le _, rfl, Below.refl _ _⟩
    case round =>
      obtain ⟨k, hk, rfl, hb⟩ := hrel
      have Hlb := Lib.hid hb
      have HXxr := Lib.hid (block_below HXx.out hb (block_lt HXx.out)); have HXpr := Lib.hid (block_below HXp.out hb (block_lt HXp.out)); have HXor := Lib.hid (block_below HXo.out hb (block_lt HXo.out)); have HAxr := Lib.hid (HAx.out.up hb); have HApr := Lib.hid (HAp.out.up hb); have HAor := Lib.hid (HAo.out.up hb); have Hbr := Lib.hid (Hbel.out.trans (hb.mono Hbel.out.size))
      have z11 := block_cell HXor.out 11
      simp at z11
      have hgx := block_lt HXxr.out
      have hgp := block_lt HXpr.out
      have hgo := block_lt HXor.out
      by_cases hlt : k < n'
      · obtain ⟨b, oo, rfl, hbB, x0, x1, x2, x3, x4, x5, x6, x7, -, -, -⟩ := HAor.out.rd.hd hlt
        have hd1 : decide ((k : Int) < (n' : Int)) = true := decide_eq_true (by omega)
        have hki : (k : Int) < (n' : Int) := by omega
        generalize o.held.getD k default = h at *
        have HS := Lib.hid (show (wr.cell? ⟨gx, 0, none⟩ = some (.int .u8 (p.nm.x0 : Int)) ∧ wr.cell? ⟨gx, 1, none⟩ = some (.int .u8 (p.nm.x1 : Int)) ∧ wr.cell? ⟨gx, 2, none⟩ = some (.int .u8 (p.nm.x2 : Int)) ∧ wr.cell? ⟨gx, 3, none⟩ = some (.int .u8 (p.nm.x3 : Int)) ∧ wr.cell? ⟨gx, 4, none⟩ = some (.int .u8 (p.nm.x4 : Int)) ∧ wr.cell? ⟨gx, 5, none⟩ = some (.int .u8 (p.nm.x5 : Int)) ∧ wr.cell? ⟨gx, 6, none⟩ = some (.int .u8 (p.nm.x6 : Int)) ∧ wr.cell? ⟨gx, 7, none⟩ = some (.int .u8 (p.nm.x7 : Int)) ∧ wr.cell? ⟨gx, 8, none⟩ = some (.int .i64 p.no) ∧ wr.cell? ⟨gx, 9, none⟩ = some (.int .i64 p.h0) ∧ wr.cell? ⟨gx, 10, none⟩ = some (.int .i64 p.h1) ∧ wr.cell? ⟨gx, 11, none⟩ = some (.slice A2 n2 c2)) ∧ wr.cell? ⟨(w.heap.size + 1), 11, none⟩ = some (.slice (some ⟨b, oo, none⟩) n' c') ∧ (wr.cell? ⟨b, (oo + k * 11), none⟩ = some (.int .u8 (h.nm.x0 : Int)) ∧ wr.cell? ⟨b, (oo + k * 11) + 1, none⟩ = some (.int .u8 (h.nm.x1 : Int)) ∧ wr.cell? ⟨b, (oo + k * 11) + 2, none⟩ = some (.int .u8 (h.nm.x2 : Int)) ∧ wr.cell? ⟨b, (oo + k * 11) + 3, none⟩ = some (.int .u8 (h.nm.x3 : Int)) ∧ wr.cell? ⟨b, (oo + k * 11) + 4, none⟩ = some (.int .u8 (h.nm.x4 : Int)) ∧ wr.cell? ⟨b, (oo + k * 11) + 5, none⟩ = some (.int .u8 (h.nm.x5 : Int)) ∧ wr.cell? ⟨b, (oo + k * 11) + 6, none⟩ = some (.int .u8 (h.nm.x6 : Int)) ∧ wr.cell? ⟨b, (oo + k * 11) + 7, none⟩ = some (.int .u8 (h.nm.x7 : Int))) from ⟨PBox.all HXxr.out, z11, x0, x1, x2, x3, x4, x5, x6, x7⟩)
        clear hb
        go_upto_region 9 with fail
        go_cut [9, 10] (fun s9 s10 wx => ∃ g : Nat, s9 = .pointer (some ⟨g, 0, none⟩) ∧ s10 = .bool (decide (0 ≤ placeL p.held h.nm)) ∧ wx.heap[g]? = some (.cells #[.int .u8 ((p.find h.nm).nm.x0 : Int), .int .u8 ((p.find h.nm).nm.x1 : Int), .int .u8 ((p.find h.nm).nm.x2 : Int), .int .u8 ((p.find h.nm).nm.x3 : Int), .int .u8 ((p.find h.nm).nm.x4 : Int), .int .u8 ((p.find h.nm).nm.x5 : Int), .int .u8 ((p.find h.nm).nm.x6 : Int), .int .u8 ((p.find h.nm).nm.x7 : Int), .int .i64 (p.find h.nm).am, .int .i64 (p.find h.nm).fr, .int .i64 (p.find h.nm).un] 56 (0, 0)) ∧ Below wr.heap.size wr wx ∧ wr.heap.size ≤ g)
        case first =>
          have HAa := Lib.hid HAxr.out.drew
          have HAb := Lib.hid (HAxr.out.up (below_one wr (.cells #[.int .u8 0, .int .u8 0, .int .u8 0, .int .u8 0, .int .u8 0, .int .u8 0, .int .u8 0, .int .u8 0, .int .i64 0, .int .i64 0, .int .i64 0] 56))).drew
          go_region_held3 (fun w' => (w'.cell? ⟨gx, 0, none⟩ = some (.int .u8 (p.nm.x0 : Int)) ∧ w'.cell? ⟨gx, 1, none⟩ = some (.int .u8 (p.nm.x1 : Int)) ∧ w'.cell? ⟨gx, 2, none⟩ = some (.int .u8 (p.nm.x2 : Int)) ∧ w'.cell? ⟨gx, 3, none⟩ = some (.int .u8 (p.nm.x3 : Int)) ∧ w'.cell? ⟨gx, 4, none⟩ = some (.int .u8 (p.nm.x4 : Int)) ∧ w'.cell? ⟨gx, 5, none⟩ = some (.int .u8 (p.nm.x5 : Int)) ∧ w'.cell? ⟨gx, 6, none⟩ = some (.int .u8 (p.nm.x6 : Int)) ∧ w'.cell? ⟨gx, 7, none⟩ = some (.int .u8 (p.nm.x7 : Int)) ∧ w'.cell? ⟨gx, 8, none⟩ = some (.int .i64 p.no) ∧ w'.cell? ⟨gx, 9, none⟩ = some (.int .i64 p.h0) ∧ w'.cell? ⟨gx, 10, none⟩ = some (.int .i64 p.h1) ∧ w'.cell? ⟨gx, 11, none⟩ = some (.slice A2 n2 c2)) ∧ w'.cell? ⟨(w.heap.size + 1), 11, none⟩ = some (.slice (some ⟨b, oo, none⟩) n' c') ∧ (w'.cell? ⟨b, (oo + k * 11), none⟩ = some (.int .u8 (h.nm.x0 : Int)) ∧ w'.cell? ⟨b, (oo + k * 11) + 1, none⟩ = some (.int .u8 (h.nm.x1 : Int)) ∧ w'.cell? ⟨b, (oo + k * 11) + 2, none⟩ = some (.int .u8 (h.nm.x2 : Int)) ∧ w'.cell? ⟨b, (oo + k * 11) + 3, none⟩ = some (.int .u8 (h.nm.x3 : Int)) ∧ w'.cell? ⟨b, (oo + k * 11) + 4, none⟩ = some (.int .u8 (h.nm.x4 : Int)) ∧ w'.cell? ⟨b, (oo + k * 11) + 5, none⟩ = some (.int .u8 (h.nm.x5 : Int)) ∧ w'.cell? ⟨b, (oo + k * 11) + 6, none⟩ = some (.int .u8 (h.nm.x6 : Int)) ∧ w'.cell? ⟨b, (oo + k * 11) + 7, none⟩ = some (.int .u8 (h.nm.x7 : Int))))
            (((with_reducible refine s9_below ?_ hgx hgo hbB HS.out); (first
              | with_reducible exact (Below.refl wr.heap.size wr).drew
              | with_reducible exact ((Below.refl wr.heap.size wr).alloc (Nat.le_refl _) _).drew
              | with_reducible exact HB4.out
              | with_reducible exact HB4.out.alloc HB4.out.size _
              | with_reducible exact below_set11 HB4.out (Nat.le_refl wr.heap.size))))
            ((go_at_call 27; go_must (refine (find_any p A2 n2 c2 h.nm _ (by first | with_reducible exact HAa.out | with_reducible exact HAb.out)).mono ?_; rintro e w4 ⟨rfl, hb4⟩; have HB4 := Lib.hid (show Below wr.heap.size wr w4 from (by first | with_reducible exact bl_a hb4 | with_reducible exact bl_b hb4)); (first | (have HZ4 := Lib.hid (by with_reducible exact zero_hd hb4); obtain ⟨y0, y1, y2, y3, y4, y5, y6, y7, y8, y9, y10⟩ := HBx.all (h := hd0) HZ4.out; have vf := block_free HZ4.out; have vl := block_lt HZ4.out) | skip); clear hb4)))
          all_goals
            go_wp2_with fail
            try go_meet
            first
              | (obtain ⟨s1, s2⟩ := set11 HZ4.out rfl (p.find h.nm)
                 exact ⟨wr.heap.size, rfl, rfl, s1, HB4.out.grown s2 HB4.out.size (fun k hk => by cases hk; exact Nat.le_refl _), Nat.le_refl _⟩)
              | exact ⟨w4.heap.size, rfl, rfl, heap_alloc_new _ _, HB4.out.alloc HB4.out.size _, HB4.out.size⟩
        case rest =>
          obtain ⟨g, rfl, rfl, hY, hW, hg⟩ := hcut
          have HXpc := Lib.hid (block_below HXpr.out hW hgp)
          have HWc := Lib.hid hW
          have HApc := Lib.hid (HApr.out.up hW).drew
          have HY := Lib.hid hY
          have HSc := Lib.hid (pp9 (s9_below hW hgx hgo hbB HS.out).2 (block_below HXpr.out hW hgp))
          have hgpc := block_lt HXpc.out
          have hgoc : w.heap.size + 1 < wc.heap.size := Nat.lt_of_lt_of_le hgo hW.size
          have hbBc : b < wc.heap.size := Nat.lt_of_lt_of_le hbB hW.size
          have Hlc := Lib.hid (Hlb.out.trans (hW.mono Hlb.out.size))
          clear hY hW x0 x1 x2 x3 x4 x5 x6 x7 z11 HS
          go_wp2
          go_region_held3 (fun w' => (w'.cell? ⟨w.heap.size, 0, none⟩ = some (.int .u8 (p.nm.x0 : Int)) ∧ w'.cell? ⟨w.heap.size, 1, none⟩ = some (.int .u8 (p.nm.x1 : Int)) ∧ w'.cell? ⟨w.heap.size, 2, none⟩ = some (.int .u8 (p.nm.x2 : Int)) ∧ w'.cell? ⟨w.heap.size, 3, none⟩ = some (.int .u8 (p.nm.x3 : Int)) ∧ w'.cell? ⟨w.heap.size, 4, none⟩ = some (.int .u8 (p.nm.x4 : Int)) ∧ w'.cell? ⟨w.heap.size, 5, none⟩ = some (.int .u8 (p.nm.x5 : Int)) ∧ w'.cell? ⟨w.heap.size, 6, none⟩ = some (.int .u8 (p.nm.x6 : Int)) ∧ w'.cell? ⟨w.heap.size, 7, none⟩ = some (.int .u8 (p.nm.x7 : Int)) ∧ w'.cell? ⟨w.heap.size, 8, none⟩ = some (.int .i64 p.no) ∧ w'.cell? ⟨w.heap.size, 9, none⟩ = some (.int .i64 p.h0) ∧ w'.cell? ⟨w.heap.size, 10, none⟩ = some (.int .i64 p.h1) ∧ w'.cell? ⟨w.heap.size, 11, none⟩ = some (.slice A n c)) ∧ w'.cell? ⟨w.heap.size + 1, 11, none⟩ = some (.slice (some ⟨b, oo, none⟩) n' c') ∧ (w'.cell? ⟨b, (oo + k * 11), none⟩ = some (.int .u8 (h.nm.x0 : Int)) ∧ w'.cell? ⟨b, (oo + k * 11) + 1, none⟩ = some (.int .u8 (h.nm.x1 : Int)) ∧ w'.cell? ⟨b, (oo + k * 11) + 2, none⟩ = some (.int .u8 (h.nm.x2 : Int)) ∧ w'.cell? ⟨b, (oo + k * 11) + 3, none⟩ = some (.int .u8 (h.nm.x3 : Int)) ∧ w'.cell? ⟨b, (oo + k * 11) + 4, none⟩ = some (.int .u8 (h.nm.x4 : Int)) ∧ w'.cell? ⟨b, (oo + k * 11) + 5, none⟩ = some (.int .u8 (h.nm.x5 : Int)) ∧ w'.cell? ⟨b, (oo + k * 11) + 6, none⟩ = some (.int .u8 (h.nm.x6 : Int)) ∧ w'.cell? ⟨b, (oo + k * 11) + 7, none⟩ = some (.int .u8 (h.nm.x7 : Int))))
            (first | with_reducible exact HSd.out | exact HSc.out)
            ((go_at_call 28; go_must (refine (placer_any p A n c h.nm _ HApc.out).mono ?_; rintro e w5 ⟨rfl, hb5d⟩; have hb5 := bl_a hb5d; have HSd := Lib.hid (pp9_below hb5 hgpc hgoc hbBc HSc.out); have HY5 := Lib.hid (block_below HY.out hb5 (block_lt HY.out)); have HXp5 := Lib.hid (block_below (w := wc) HXpc.out hb5 hgpc); have HAp5 := Lib.hid ((HApr.out.up HWc.out).up hb5); have Hl5 := Lib.hid (Hlc.out.trans (hb5.mono Hlc.out.size)); clear hb5 hb5d)))
          have HAp5d := Lib.hid HAp5.out.drew
          by_cases hp : 0 ≤ placeL p.held h.nm
          · have e1 : decide (0 ≤ placeL p.held h.nm) = true := decide_eq_true hp
            have e2 : ((true : Bool) != true) = false := rfl
            have hf : p.find h.nm = p.held.getD (placeL p.held h.nm).toNat default := by unfold Pu.find; rw [if_pos hp]
            have hq := (Hfind.out h.nm hp).1
            obtain ⟨q, hq2⟩ : ∃ q : Nat, placeL p.held h.nm = (q : Int) := ⟨(placeL p.held h.nm).toNat, by omega⟩
            rw [hq2] at hf hq e1
            simp only [Int.toNat_natCast] at hf hq
            have Hq := Lib.hid hq
            have hqi : (0 : Int) ≤ (q : Int) := by omega
            have HY5f := HY5.out
            rw [hf] at HY5f
            have HY6 := Lib.hid HY5f
            have Hgd : Hid (∀ (A5 : Option Addr) (n5 : Nat) (v : World), Rd v v.heap.size 11 A5 n5 (flatH p.held) → q < n5 ∧ (q : Int) < (n5 : Int)) := Lib.hid (fun A5 n5 v hv => by have := hv.hlen; omega)
            clear HY5f HY5 HY hp hf hq
            generalize hfe : p.held.getD q default = f at *
            have Hfe := Lib.hid hfe
            clear hfe
            have HSe := Lib.hid (show (w5.cell? ⟨g, 0, none⟩ = some (.int .u8 (f.nm.x0 : Int)) ∧ w5.cell? ⟨g, 1, none⟩ = some (.int .u8 (f.nm.x1 : Int)) ∧ w5.cell? ⟨g, 2, none⟩ = some (.int .u8 (f.nm.x2 : Int)) ∧ w5.cell? ⟨g, 3, none⟩ = some (.int .u8 (f.nm.x3 : Int)) ∧ w5.cell? ⟨g, 4, none⟩ = some (.int .u8 (f.nm.x4 : Int)) ∧ w5.cell? ⟨g, 5, none⟩ = some (.int .u8 (f.nm.x5 : Int)) ∧ w5.cell? ⟨g, 6, none⟩ = some (.int .u8 (f.nm.x6 : Int)) ∧ w5.cell? ⟨g, 7, none⟩ = some (.int .u8 (f.nm.x7 : Int)) ∧ w5.cell? ⟨g, 8, none⟩ = some (.int .i64 f.am) ∧ w5.cell? ⟨g, 9, none⟩ = some (.int .i64 f.fr) ∧ w5.cell? ⟨g, 10, none⟩ = some (.int .i64 f.un)) ∧ (w5.cell? ⟨w.heap.size, 0, none⟩ = some (.int .u8 (p.nm.x0 : Int)) ∧ w5.cell? ⟨w.heap.size, 1, none⟩ = some (.int .u8 (p.nm.x1 : Int)) ∧ w5.cell? ⟨w.heap.size, 2, none⟩ = some (.int .u8 (p.nm.x2 : Int)) ∧ w5.cell? ⟨w.heap.size, 3, none⟩ = some (.int .u8 (p.nm.x3 : Int)) ∧ w5.cell? ⟨w.heap.size, 4, none⟩ = some (.int .u8 (p.nm.x4 : Int)) ∧ w5.cell? ⟨w.heap.size, 5, none⟩ = some (.int .u8 (p.nm.x5 : Int)) ∧ w5.cell? ⟨w.heap.size, 6, none⟩ = some (.int .u8 (p.nm.x6 : Int)) ∧ w5.cell? ⟨w.heap.size, 7, none⟩ = some (.int .u8 (p.nm.x7 : Int)) ∧ w5.cell? ⟨w.heap.size, 8, none⟩ = some (.int .i64 p.no) ∧ w5.cell? ⟨w.heap.size, 9, none⟩ = some (.int .i64 p.h0) ∧ w5.cell? ⟨w.heap.size, 10, none⟩ = some (.int .i64 p.h1) ∧ w5.cell? ⟨w.heap.size, 11, none⟩ = some (.slice A n c)) from ⟨HBx.all HY6.out, PBox.all HXp5.out⟩)
            have hgl := block_lt HY6.out
            have hgp5 := block_lt HXp5.out
            rw [hq2]
            clear hq2
            go_wp2
            refine wp_region_held_drew (S := (fun w' => (w'.cell? ⟨g, 0, none⟩ = some (.int .u8 (f.nm.x0 : Int)) ∧ w'.cell? ⟨g, 1, none⟩ = some (.int .u8 (f.nm.x1 : Int)) ∧ w'.cell? ⟨g, 2, none⟩ = some (.int .u8 (f.nm.x2 : Int)) ∧ w'.cell? ⟨g, 3, none⟩ = some (.int .u8 (f.nm.x3 : Int)) ∧ w'.cell? ⟨g, 4, none⟩ = some (.int .u8 (f.nm.x4 : Int)) ∧ w'.cell? ⟨g, 5, none⟩ = some (.int .u8 (f.nm.x5 : Int)) ∧ w'.cell? ⟨g, 6, none⟩ = some (.int .u8 (f.nm.x6 : Int)) ∧ w'.cell? ⟨g, 7, none⟩ = some (.int .u8 (f.nm.x7 : Int)) ∧ w'.cell? ⟨g, 8, none⟩ = some (.int .i64 f.am) ∧ w'.cell? ⟨g, 9, none⟩ = some (.int .i64 f.fr) ∧ w'.cell? ⟨g, 10, none⟩ = some (.int .i64 f.un)) ∧ (w'.cell? ⟨w.heap.size, 0, none⟩ = some (.int .u8 (p.nm.x0 : Int)) ∧ w'.cell? ⟨w.heap.size, 1, none⟩ = some (.int .u8 (p.nm.x1 : Int)) ∧ w'.cell? ⟨w.heap.size, 2, none⟩ = some (.int .u8 (p.nm.x2 : Int)) ∧ w'.cell? ⟨w.heap.size, 3, none⟩ = some (.int .u8 (p.nm.x3 : Int)) ∧ w'.cell? ⟨w.heap.size, 4, none⟩ = some (.int .u8 (p.nm.x4 : Int)) ∧ w'.cell? ⟨w.heap.size, 5, none⟩ = some (.int .u8 (p.nm.x5 : Int)) ∧ w'.cell? ⟨w.heap.size, 6, none⟩ = some (.int .u8 (p.nm.x6 : Int)) ∧ w'.cell? ⟨w.heap.size, 7, none⟩ = some (.int .u8 (p.nm.x7 : Int)) ∧ w'.cell? ⟨w.heap.size, 8, none⟩ = some (.int .i64 p.no) ∧ w'.cell? ⟨w.heap.size, 9, none⟩ = some (.int .i64 p.h0) ∧ w'.cell? ⟨w.heap.size, 10, none⟩ = some (.int .i64 p.h1) ∧ w'.cell? ⟨w.heap.size, 11, none⟩ = some (.slice A n c)))) (by kernel_rfl) HSe.out (fun hHeld => ?_)
            refine takeH 0 (some 81) (v := ?_) rfl (by kernel_rfl) (by kernel_rfl) (by kernel_rfl) (by kernel_rfl) (fun _ _ _ h => h) (Or.inl ⟨by kernel_rfl, ?hy⟩) (by assumption) ?_
            case hy =>
              intro w' hSw
              try dsimp only at hSw
              first
                | (go_simp; done)
                | (go_simp; with_reducible rfl)
            simp only [Act.put, List.setIfInBounds_toArray, List.set_cons_zero, List.set_cons_succ]
            refine takeH 1 (some 82) (v := ?_) rfl (by kernel_rfl) (by kernel_rfl) (by kernel_rfl) (by kernel_rfl) (fun _ _ _ h => h) (Or.inl ⟨by kernel_rfl, ?hy⟩) (by assumption) ?_
            case hy =>
              intro w' hSw
              try dsimp only at hSw
              first
                | (go_simp; done)
                | (go_simp; with_reducible rfl)
            simp only [Act.put, List.setIfInBounds_toArray, List.set_cons_zero, List.set_cons_succ]
            refine takeH 2 (some 83) (v := ?_) rfl (by kernel_rfl) (by kernel_rfl) (by kernel_rfl) (by kernel_rfl) (fun _ _ _ h => h) (Or.inl ⟨by kernel_rfl, ?hy⟩) (by assumption) ?_
            case hy =>
              intro w' hSw
              try dsimp only at hSw
              first
                | (go_simp; done)
                | (go_simp; with_reducible rfl)
            simp only [Act.put, List.setIfInBounds_toArray, List.set_cons_zero, List.set_cons_succ]
            refine takeH 3 (some 84) (v := ?_) rfl (by kernel_rfl) (by kernel_rfl) (by kernel_rfl) (by kernel_rfl) (fun _ _ _ h => h) (Or.inl ⟨by kernel_rfl, ?hy⟩) (by assumption) ?_
            case hy =>
              intro w' hSw
              try dsimp only at hSw
              first
                | (go_simp; done)
                | (go_simp; with_reducible rfl)
            simp only [Act.put, List.setIfInBounds_toArray, List.set_cons_zero, List.set_cons_succ]
            refine takeH 4 (some 85) (v := ?_) rfl (by kernel_rfl) (by kernel_rfl) (by kernel_rfl) (by kernel_rfl) (fun _ _ _ h => h) (Or.inl ⟨by kernel_rfl, ?hy⟩) (by assumption) ?_
            case hy =>
              intro w' hSw
              try dsimp only at hSw
              first
                | (go_simp; done)
                | (go_simp; with_reducible rfl)
            simp only [Act.put, List.setIfInBounds_toArray, List.set_cons_zero, List.set_cons_succ]
            refine takeH 5 (some 86) (v := ?_) rfl (by kernel_rfl) (by kernel_rfl) (by kernel_rfl) (by kernel_rfl) (fun _ _ _ h => h) (Or.inl ⟨by kernel_rfl, ?hy⟩) (by assumption) ?_
            case hy =>
              intro w' hSw
              try dsimp only at hSw
              first
                | (go_simp; done)
                | (go_simp; with_reducible rfl)
            simp only [Act.put, List.setIfInBounds_toArray, List.set_cons_zero, List.set_cons_succ]
            refine takeH 6 (some 87) (v := ?_) rfl (by kernel_rfl) (by kernel_rfl) (by kernel_rfl) (by kernel_rfl) (fun _ _ _ h => h) (Or.inl ⟨by kernel_rfl, ?hy⟩) (by assumption) ?_
            case hy =>
              intro w' hSw
              try dsimp only at hSw
              first
                | (go_simp; done)
                | (go_simp; with_reducible rfl)
            simp only [Act.put, List.setIfInBounds_toArray, List.set_cons_zero, List.set_cons_succ]
            refine takeH 7 (some 88) (v := ?_) rfl (by kernel_rfl) (by kernel_rfl) (by kernel_rfl) (by kernel_rfl) (fun _ _ _ h => h) (Or.inl ⟨by kernel_rfl, ?hy⟩) (by assumption) ?_
            case hy =>
              intro w' hSw
              try dsimp only at hSw
              first
                | (go_simp; done)
                | (go_simp; with_reducible rfl)
            simp only [Act.put, List.setIfInBounds_toArray, List.set_cons_zero, List.set_cons_succ]
            refine takeH 8 (some 89) (v := ?_) rfl (by kernel_rfl) (by kernel_rfl) (by kernel_rfl) (by kernel_rfl) (fun _ _ _ h => h) (Or.inl ⟨by kernel_rfl, ?hy⟩) (by assumption) ?_
            case hy =>
              intro w' hSw
              try dsimp only at hSw
              first
                | (go_simp; done)
                | (go_simp; with_reducible rfl)
            simp only [Act.put, List.setIfInBounds_toArray, List.set_cons_zero, List.set_cons_succ]
            refine takeH 11 (some 92) (v := ?_) rfl (by kernel_rfl) (by kernel_rfl) (by kernel_rfl) (by kernel_rfl) (fun _ _ _ h => h) (Or.inl ⟨by kernel_rfl, ?hy⟩) (by assumption) ?_
            case hy =>
              intro w' hSw
              try dsimp only at hSw
              first
                | (go_simp; done)
                | (go_simp; with_reducible rfl)
            simp only [Act.put, List.setIfInBounds_toArray, List.set_cons_zero, List.set_cons_succ]
            refine wpAnyH_ready (rs := [9]) (by kernel_rfl) (by simp) ?_
            refine AllReadyH.cons rfl (fun K hK => ?_) AllReadyH.nil
            rw [if_pos (by kernel_rfl)]
            simp only [List.getElem_toArray, List.getElem_cons_succ, List.getElem_cons_zero]
            go_simp
            go_at_call 13
            refine (own_any p A n c _ HAp5d.out).mono ?_
            rintro e w6 ⟨A5, n5, c5, rfl, ho5, hb6d⟩
            have hb6 := bl_a hb6d
            have HSf := Lib.hid (hp_below hb6 hgl hgp5 HSe.out)
            have hrd := Rd.of_own ho5
            have hqn := Hgd.out A5 n5 w6 hrd
            obtain ⟨hq1, hq2⟩ := hqn
            obtain ⟨b5, o5, rfl, hbB5, y0, y1, y2, y3, y4, y5, y6, y7, y8, y9, y10⟩ := hrd.hd hq1
            rw [Hfe.out] at y0 y1 y2 y3 y4 y5 y6 y7 y8 y9 y10
            have Hl6 := Lib.hid (Hl5.out.trans (hb6.mono Hl5.out.size))
            clear hb6 hb6d ho5 hrd hq1
            simp only [List.getElem_toArray, List.getElem_cons_succ, List.getElem_cons_zero, Act.put, List.setIfInBounds_toArray, List.set_cons_zero, List.set_cons_succ]
            refine hK.out _ _ HSf.out (fun hHeld2 => ?_)
            clear hK K hHeld
            refine takeH 10 (some 91) (v := ?_) rfl (by kernel_rfl) (by kernel_rfl) (by kernel_rfl) (by kernel_rfl) (fun _ _ _ h => h) (Or.inl ⟨by kernel_rfl, ?hy⟩) (by assumption) ?_
            case hy =>
              intro w' hSw
              try dsimp only at hSw
              first
                | (go_simp; done)
                | (go_simp; with_reducible rfl)
            simp only [Act.put, List.setIfInBounds_toArray, List.set_cons_zero, List.set_cons_succ]
            refine takeH 12 (some 93) (v := ?_) rfl (by kernel_rfl) (by kernel_rfl) (by kernel_rfl) (by kernel_rfl) (fun _ _ _ h => h) (Or.inl ⟨by kernel_rfl, ?hy⟩) (by assumption) ?_
            case hy =>
              intro w' hSw
              try dsimp only at hSw
              first
                | (go_simp; done)
                | (go_simp; with_reducible rfl)
            simp only [Act.put, List.setIfInBounds_toArray, List.set_cons_zero, List.set_cons_succ]
            refine wpAnyH_ready (rs := [13]) (by kernel_rfl) (by simp) ?_
            refine AllReadyH.cons rfl (fun K hK => ?_) AllReadyH.nil
            rw [if_pos (by kernel_rfl)]
            simp only [List.getElem_toArray, List.getElem_cons_succ, List.getElem_cons_zero]
            go_simp
            refine hK.out _ _ HSf.out (fun hHeld3 => ?_)
            clear hK K hHeld2
            refine takeH 14 (some 95) (v := ?_) rfl (by kernel_rfl) (by kernel_rfl) (by kernel_rfl) (by kernel_rfl) (fun _ _ _ h => h) (Or.inl ⟨by kernel_rfl, ?hy⟩) (by assumption) ?_
            case hy =>
              intro w' hSw
              try dsimp only at hSw
              first
                | (go_simp; done)
                | (go_simp; with_reducible rfl)
            simp only [Act.put, List.setIfInBounds_toArray, List.set_cons_zero, List.set_cons_succ]
            refine takeH 15 (some 96) (v := ?_) rfl (by kernel_rfl) (by kernel_rfl) (by kernel_rfl) (by kernel_rfl) (fun _ _ _ h => h) (Or.inl ⟨by kernel_rfl, ?hy⟩) (by assumption) ?_
            case hy =>
              intro w' hSw
              try dsimp only at hSw
              first
                | (go_simp; done)
                | (go_simp; with_reducible rfl)
            simp only [Act.put, List.setIfInBounds_toArray, List.set_cons_zero, List.set_cons_succ]
            refine takeH 16 (some 97) (v := ?_) rfl (by kernel_rfl) (by kernel_rfl) (by kernel_rfl) (by kernel_rfl) (fun _ _ _ h => h) (Or.inl ⟨by kernel_rfl, ?hy⟩) (by assumption) ?_
            case hy =>
              intro w' hSw
              try dsimp only at hSw
              first
                | (go_simp; done)
                | (go_simp; with_reducible rfl)
            simp only [Act.put, List.setIfInBounds_toArray, List.set_cons_zero, List.set_cons_succ]
            refine takeH 17 (some 98) (v := ?_) rfl (by kernel_rfl) (by kernel_rfl) (by kernel_rfl) (by kernel_rfl) (fun _ _ _ h => h) (Or.inl ⟨by kernel_rfl, ?hy⟩) (by assumption) ?_
            case hy =>
              intro w' hSw
              try dsimp only at hSw
              first
                | (go_simp; done)
                | (go_simp; with_reducible rfl)
            simp only [Act.put, List.setIfInBounds_toArray, List.set_cons_zero, List.set_cons_succ]
            refine takeH 18 (some 99) (v := ?_) rfl (by kernel_rfl) (by kernel_rfl) (by kernel_rfl) (by kernel_rfl) (fun _ _ _ h => h) (Or.inl ⟨by kernel_rfl, ?hy⟩) (by assumption) ?_
            case hy =>
              intro w' hSw
              try dsimp only at hSw
              first
                | (go_simp; done)
                | (go_simp; with_reducible rfl)
            simp only [Act.put, List.setIfInBounds_toArray, List.set_cons_zero, List.set_cons_succ]
            refine takeH 19 (some 100) (v := ?_) rfl (by kernel_rfl) (by kernel_rfl) (by kernel_rfl) (by kernel_rfl) (fun _ _ _ h => h) (Or.inl ⟨by kernel_rfl, ?hy⟩) (by assumption) ?_
            case hy =>
              intro w' hSw
              try dsimp only at hSw
              first
                | (go_simp; done)
                | (go_simp; with_reducible rfl)
            simp only [Act.put, List.setIfInBounds_toArray, List.set_cons_zero, List.set_cons_succ]
            refine takeH 20 (some 101) (v := ?_) rfl (by kernel_rfl) (by kernel_rfl) (by kernel_rfl) (by kernel_rfl) (fun _ _ _ h => h) (Or.inl ⟨by kernel_rfl, ?hy⟩) (by assumption) ?_
            case hy =>
              intro w' hSw
              try dsimp only at hSw
              first
                | (go_simp; done)
                | (go_simp; with_reducible rfl)
            simp only [Act.put, List.setIfInBounds_toArray, List.set_cons_zero, List.set_cons_succ]
            refine takeH 21 (some 102) (v := undef) rfl (by kernel_rfl) (by kernel_rfl) (by kernel_rfl) (by kernel_rfl) (fun _ _ _ h => h) (Or.inr ⟨by kernel_rfl, rfl⟩) (by assumption) ?_
            simp only [Act.put, List.setIfInBounds_toArray, List.set_cons_zero, List.set_cons_succ]
            refine takeH 22 (some 103) (v := undef) rfl (by kernel_rfl) (by kernel_rfl) (by kernel_rfl) (by kernel_rfl) (fun _ _ _ h => h) (Or.inr ⟨by kernel_rfl, rfl⟩) (by assumption) ?_
            simp only [Act.put, List.setIfInBounds_toArray, List.set_cons_zero, List.set_cons_succ]
            refine takeH 23 (some 104) (v := undef) rfl (by kernel_rfl) (by kernel_rfl) (by kernel_rfl) (by kernel_rfl) (fun _ _ _ h => h) (Or.inr ⟨by kernel_rfl, rfl⟩) (by assumption) ?_
            simp only [Act.put, List.setIfInBounds_toArray, List.set_cons_zero, List.set_cons_succ]
            refine takeH 24 (some 105) (v := ?_) rfl (by kernel_rfl) (by kernel_rfl) (by kernel_rfl) (by kernel_rfl) (fun _ _ _ h => h) (Or.inl ⟨by kernel_rfl, ?hy⟩) (by assumption) ?_
            case hy =>
              intro w' hSw
              try dsimp only at hSw
              first
                | (go_simp; done)
                | (go_simp; with_reducible rfl)
            simp only [Act.put, List.setIfInBounds_toArray, List.set_cons_zero, List.set_cons_succ]
            refine takeH 25 (some 106) (v := ?_) rfl (by kernel_rfl) (by kernel_rfl) (by kernel_rfl) (by kernel_rfl) (fun _ _ _ h => h) (Or.inl ⟨by kernel_rfl, ?hy⟩) (by assumption) ?_
            case hy =>
              intro w' hSw
              try dsimp only at hSw
              first
                | (go_simp; done)
                | (go_simp; with_reducible rfl)
            simp only [Act.put, List.setIfInBounds_toArray, List.set_cons_zero, List.set_cons_succ]
            refine wpAnyH_done (by kernel_rfl) ?_ _
            all_goals
              go_wp2
              go_roundw
              case rel => exact ⟨k + 1, by omega, by go_num, Hl6.out⟩
              case measure => simp [intOf]; omega
          · have e1 : decide (0 ≤ placeL p.held h.nm) = false := decide_eq_false hp
            have e2 : ((false : Bool) != false) = false := rfl
            have hf : p.find h.nm = hd0 := by unfold Pu.find; rw [if_neg hp]
            have HY5f := HY5.out
            rw [hf] at HY5f
            have HSe := Lib.hid (show (w5.cell? ⟨g, 0, none⟩ = some (.int .u8 (hd0.nm.x0 : Int)) ∧ w5.cell? ⟨g, 1, none⟩ = some (.int .u8 (hd0.nm.x1 : Int)) ∧ w5.cell? ⟨g, 2, none⟩ = some (.int .u8 (hd0.nm.x2 : Int)) ∧ w5.cell? ⟨g, 3, none⟩ = some (.int .u8 (hd0.nm.x3 : Int)) ∧ w5.cell? ⟨g, 4, none⟩ = some (.int .u8 (hd0.nm.x4 : Int)) ∧ w5.cell? ⟨g, 5, none⟩ = some (.int .u8 (hd0.nm.x5 : Int)) ∧ w5.cell? ⟨g, 6, none⟩ = some (.int .u8 (hd0.nm.x6 : Int)) ∧ w5.cell? ⟨g, 7, none⟩ = some (.int .u8 (hd0.nm.x7 : Int)) ∧ w5.cell? ⟨g, 8, none⟩ = some (.int .i64 hd0.am) ∧ w5.cell? ⟨g, 9, none⟩ = some (.int .i64 hd0.fr) ∧ w5.cell? ⟨g, 10, none⟩ = some (.int .i64 hd0.un)) from HBx.all HY5f)
            have HSz := HSe.out
            clear HY5f HY5 hf hp
            obtain ⟨y0, y1, y2, y3, y4, y5, y6, y7, y8, y9, y10⟩ := HSz
            clear hnh hfh hn3
            rw [e1]
            go_wp2
            refine wp_region_held_drew (S := (fun w' => w'.cell? ⟨g, 0, none⟩ = some (.int .u8 0) ∧ w'.cell? ⟨g, 1, none⟩ = some (.int .u8 0) ∧ w'.cell? ⟨g, 2, none⟩ = some (.int .u8 0) ∧ w'.cell? ⟨g, 3, none⟩ = some (.int .u8 0) ∧ w'.cell? ⟨g, 4, none⟩ = some (.int .u8 0) ∧ w'.cell? ⟨g, 5, none⟩ = some (.int .u8 0) ∧ w'.cell? ⟨g, 6, none⟩ = some (.int .u8 0) ∧ w'.cell? ⟨g, 7, none⟩ = some (.int .u8 0) ∧ w'.cell? ⟨g, 8, none⟩ = some (.int .i64 0) ∧ w'.cell? ⟨g, 9, none⟩ = some (.int .i64 0) ∧ w'.cell? ⟨g, 10, none⟩ = some (.int .i64 0))) (by kernel_rfl) HSe.out (fun hHeld => ?_)
            refine takeH 0 (some 81) (v := ?_) rfl (by kernel_rfl) (by kernel_rfl) (by kernel_rfl) (by kernel_rfl) (fun _ _ _ h => h) (Or.inl ⟨by kernel_rfl, ?hy⟩) (by assumption) ?_
            case hy =>
              intro w' hSw
              try dsimp only at hSw
              first
                | (go_simp; done)
                | (go_simp; with_reducible rfl)
            simp only [Act.put, List.setIfInBounds_toArray, List.set_cons_zero, List.set_cons_succ]
            refine takeH 1 (some 82) (v := ?_) rfl (by kernel_rfl) (by kernel_rfl) (by kernel_rfl) (by kernel_rfl) (fun _ _ _ h => h) (Or.inl ⟨by kernel_rfl, ?hy⟩) (by assumption) ?_
            case hy =>
              intro w' hSw
              try dsimp only at hSw
              first
                | (go_simp; done)
                | (go_simp; with_reducible rfl)
            simp only [Act.put, List.setIfInBounds_toArray, List.set_cons_zero, List.set_cons_succ]
            refine takeH 2 (some 83) (v := ?_) rfl (by kernel_rfl) (by kernel_rfl) (by kernel_rfl) (by kernel_rfl) (fun _ _ _ h => h) (Or.inl ⟨by kernel_rfl, ?hy⟩) (by assumption) ?_
            case hy =>
              intro w' hSw
              try dsimp only at hSw
              first
                | (go_simp; done)
                | (go_simp; with_reducible rfl)
            simp only [Act.put, List.setIfInBounds_toArray, List.set_cons_zero, List.set_cons_succ]
            refine takeH 3 (some 84) (v := ?_) rfl (by kernel_rfl) (by kernel_rfl) (by kernel_rfl) (by kernel_rfl) (fun _ _ _ h => h) (Or.inl ⟨by kernel_rfl, ?hy⟩) (by assumption) ?_
            case hy =>
              intro w' hSw
              try dsimp only at hSw
              first
                | (go_simp; done)
                | (go_simp; with_reducible rfl)
            simp only [Act.put, List.setIfInBounds_toArray, List.set_cons_zero, List.set_cons_succ]
            refine takeH 4 (some 85) (v := ?_) rfl (by kernel_rfl) (by kernel_rfl) (by kernel_rfl) (by kernel_rfl) (fun _ _ _ h => h) (Or.inl ⟨by kernel_rfl, ?hy⟩) (by assumption) ?_
            case hy =>
              intro w' hSw
              try dsimp only at hSw
              first
                | (go_simp; done)
                | (go_simp; with_reducible rfl)
            simp only [Act.put, List.setIfInBounds_toArray, List.set_cons_zero, List.set_cons_succ]
            refine takeH 5 (some 86) (v := ?_) rfl (by kernel_rfl) (by kernel_rfl) (by kernel_rfl) (by kernel_rfl) (fun _ _ _ h => h) (Or.inl ⟨by kernel_rfl, ?hy⟩) (by assumption) ?_
            case hy =>
              intro w' hSw
              try dsimp only at hSw
              first
                | (go_simp; done)
                | (go_simp; with_reducible rfl)
            simp only [Act.put, List.setIfInBounds_toArray, List.set_cons_zero, List.set_cons_succ]
            refine takeH 6 (some 87) (v := ?_) rfl (by kernel_rfl) (by kernel_rfl) (by kernel_rfl) (by kernel_rfl) (fun _ _ _ h => h) (Or.inl ⟨by kernel_rfl, ?hy⟩) (by assumption) ?_
            case hy =>
              intro w' hSw
              try dsimp only at hSw
              first
                | (go_simp; done)
                | (go_simp; with_reducible rfl)
            simp only [Act.put, List.setIfInBounds_toArray, List.set_cons_zero, List.set_cons_succ]
            refine takeH 7 (some 88) (v := undef) rfl (by kernel_rfl) (by kernel_rfl) (by kernel_rfl) (by kernel_rfl) (fun _ _ _ h => h) (Or.inr ⟨by kernel_rfl, rfl⟩) (by assumption) ?_
            simp only [Act.put, List.setIfInBounds_toArray, List.set_cons_zero, List.set_cons_succ]
            refine takeH 8 (some 89) (v := undef) rfl (by kernel_rfl) (by kernel_rfl) (by kernel_rfl) (by kernel_rfl) (fun _ _ _ h => h) (Or.inr ⟨by kernel_rfl, rfl⟩) (by assumption) ?_
            simp only [Act.put, List.setIfInBounds_toArray, List.set_cons_zero, List.set_cons_succ]
            refine takeH 9 (some 90) (v := undef) rfl (by kernel_rfl) (by kernel_rfl) (by kernel_rfl) (by kernel_rfl) (fun _ _ _ h => h) (Or.inr ⟨by kernel_rfl, rfl⟩) (by assumption) ?_
            simp only [Act.put, List.setIfInBounds_toArray, List.set_cons_zero, List.set_cons_succ]
            refine takeH 10 (some 91) (v := undef) rfl (by kernel_rfl) (by kernel_rfl) (by kernel_rfl) (by kernel_rfl) (fun _ _ _ h => h) (Or.inr ⟨by kernel_rfl, rfl⟩) (by assumption) ?_
            simp only [Act.put, List.setIfInBounds_toArray, List.set_cons_zero, List.set_cons_succ]
            refine takeH 11 (some 92) (v := undef) rfl (by kernel_rfl) (by kernel_rfl) (by kernel_rfl) (by kernel_rfl) (fun _ _ _ h => h) (Or.inr ⟨by kernel_rfl, rfl⟩) (by assumption) ?_
            simp only [Act.put, List.setIfInBounds_toArray, List.set_cons_zero, List.set_cons_succ]
            refine takeH 12 (some 93) (v := undef) rfl (by kernel_rfl) (by kernel_rfl) (by kernel_rfl) (by kernel_rfl) (fun _ _ _ h => h) (Or.inr ⟨by kernel_rfl, rfl⟩) (by assumption) ?_
            simp only [Act.put, List.setIfInBounds_toArray, List.set_cons_zero, List.set_cons_succ]
            refine takeH 13 (some 94) (v := undef) rfl (by kernel_rfl) (by kernel_rfl) (by kernel_rfl) (by kernel_rfl) (fun _ _ _ h => h) (Or.inr ⟨by kernel_rfl, rfl⟩) (by assumption) ?_
            simp only [Act.put, List.setIfInBounds_toArray, List.set_cons_zero, List.set_cons_succ]
            refine takeH 14 (some 95) (v := undef) rfl (by kernel_rfl) (by kernel_rfl) (by kernel_rfl) (by kernel_rfl) (fun _ _ _ h => h) (Or.inr ⟨by kernel_rfl, rfl⟩) (by assumption) ?_
            simp only [Act.put, List.setIfInBounds_toArray, List.set_cons_zero, List.set_cons_succ]
            refine takeH 15 (some 96) (v := ?_) rfl (by kernel_rfl) (by kernel_rfl) (by kernel_rfl) (by kernel_rfl) (fun _ _ _ h => h) (Or.inl ⟨by kernel_rfl, ?hy⟩) (by assumption) ?_
            case hy =>
              intro w' hSw
              try dsimp only at hSw
              first
                | (go_simp; done)
                | (go_simp; with_reducible rfl)
            simp only [Act.put, List.setIfInBounds_toArray, List.set_cons_zero, List.set_cons_succ]
            refine takeH 16 (some 97) (v := ?_) rfl (by kernel_rfl) (by kernel_rfl) (by kernel_rfl) (by kernel_rfl) (fun _ _ _ h => h) (Or.inl ⟨by kernel_rfl, ?hy⟩) (by assumption) ?_
            case hy =>
              intro w' hSw
              try dsimp only at hSw
              first
                | (go_simp; done)
                | (go_simp; with_reducible rfl)
            simp only [Act.put, List.setIfInBounds_toArray, List.set_cons_zero, List.set_cons_succ]
            refine takeH 17 (some 98) (v := ?_) rfl (by kernel_rfl) (by kernel_rfl) (by kernel_rfl) (by kernel_rfl) (fun _ _ _ h => h) (Or.inl ⟨by kernel_rfl, ?hy⟩) (by assumption) ?_
            case hy =>
              intro w' hSw
              try dsimp only at hSw
              first
                | (go_simp; done)
                | (go_simp; with_reducible rfl)
            simp only [Act.put, List.setIfInBounds_toArray, List.set_cons_zero, List.set_cons_succ]
            refine takeH 18 (some 99) (v := ?_) rfl (by kernel_rfl) (by kernel_rfl) (by kernel_rfl) (by kernel_rfl) (fun _ _ _ h => h) (Or.inl ⟨by kernel_rfl, ?hy⟩) (by assumption) ?_
            case hy =>
              intro w' hSw
              try dsimp only at hSw
              first
                | (go_simp; done)
                | (go_simp; with_reducible rfl)
            simp only [Act.put, List.setIfInBounds_toArray, List.set_cons_zero, List.set_cons_succ]
            refine takeH 19 (some 100) (v := ?_) rfl (by kernel_rfl) (by kernel_rfl) (by kernel_rfl) (by kernel_rfl) (fun _ _ _ h => h) (Or.inl ⟨by kernel_rfl, ?hy⟩) (by assumption) ?_
            case hy =>
              intro w' hSw
              try dsimp only at hSw
              first
                | (go_simp; done)
                | (go_simp; with_reducible rfl)
            simp only [Act.put, List.setIfInBounds_toArray, List.set_cons_zero, List.set_cons_succ]
            refine takeH 20 (some 101) (v := ?_) rfl (by kernel_rfl) (by kernel_rfl) (by kernel_rfl) (by kernel_rfl) (fun _ _ _ h => h) (Or.inl ⟨by kernel_rfl, ?hy⟩) (by assumption) ?_
            case hy =>
              intro w' hSw
              try dsimp only at hSw
              first
                | (go_simp; done)
                | (go_simp; with_reducible rfl)
            simp only [Act.put, List.setIfInBounds_toArray, List.set_cons_zero, List.set_cons_succ]
            refine takeH 21 (some 102) (v := ?_) rfl (by kernel_rfl) (by kernel_rfl) (by kernel_rfl) (by kernel_rfl) (fun _ _ _ h => h) (Or.inl ⟨by kernel_rfl, ?hy⟩) (by assumption) ?_
            case hy =>
              intro w' hSw
              try dsimp only at hSw
              first
                | (go_simp; done)
                | (go_simp; with_reducible rfl)
            simp only [Act.put, List.setIfInBounds_toArray, List.set_cons_zero, List.set_cons_succ]
            refine takeH 22 (some 103) (v := ?_) rfl (by kernel_rfl) (by kernel_rfl) (by kernel_rfl) (by kernel_rfl) (fun _ _ _ h => h) (Or.inl ⟨by kernel_rfl, ?hy⟩) (by assumption) ?_
            case hy =>
              intro w' hSw
              try dsimp only at hSw
              first
                | (go_simp; done)
                | (go_simp; with_reducible rfl)
            simp only [Act.put, List.setIfInBounds_toArray, List.set_cons_zero, List.set_cons_succ]
            refine takeH 23 (some 104) (v := ?_) rfl (by kernel_rfl) (by kernel_rfl) (by kernel_rfl) (by kernel_rfl) (fun _ _ _ h => h) (Or.inl ⟨by kernel_rfl, ?hy⟩) (by assumption) ?_
            case hy =>
              intro w' hSw
              try dsimp only at hSw
              first
                | (go_simp; done)
                | (go_simp; with_reducible rfl)
            simp only [Act.put, List.setIfInBounds_toArray, List.set_cons_zero, List.set_cons_succ]
            refine takeH 24 (some 105) (v := ?_) rfl (by kernel_rfl) (by kernel_rfl) (by kernel_rfl) (by kernel_rfl) (fun _ _ _ h => h) (Or.inl ⟨by kernel_rfl, ?hy⟩) (by assumption) ?_
            case hy =>
              intro w' hSw
              try dsimp only at hSw
              first
                | (go_simp; done)
                | (go_simp; with_reducible rfl)
            simp only [Act.put, List.setIfInBounds_toArray, List.set_cons_zero, List.set_cons_succ]
            refine takeH 25 (some 106) (v := ?_) rfl (by kernel_rfl) (by kernel_rfl) (by kernel_rfl) (by kernel_rfl) (fun _ _ _ h => h) (Or.inl ⟨by kernel_rfl, ?hy⟩) (by assumption) ?_
            case hy =>
              intro w' hSw
              try dsimp only at hSw
              first
                | (go_simp; done)
                | (go_simp; with_reducible rfl)
            simp only [Act.put, List.setIfInBounds_toArray, List.set_cons_zero, List.set_cons_succ]
            refine wpAnyH_done (by kernel_rfl) ?_ _
            all_goals
              go_wp2
              go_roundw
              case rel => exact ⟨k + 1, by omega, by go_num, Hl5.out.drew⟩
              case measure => simp [intOf]; omega
      · have hkn : k = n' := by omega
        subst hkn
        have hd1 : decide ((k : Int) < (k : Int)) = false := decide_eq_false (by omega)
        clear hlt hb
        obtain ⟨z0, z1, z2, z3, z4, z5, z6, z7, -, z9, z10, -⟩ := PBox.all HXpr.out
        obtain ⟨u0, u1, u2, u3, u4, u5, u6, u7, -, -, -, -⟩ := PBox.all HXxr.out
        by_cases hq : (Pu.new p.nm p.h0 p.h1).check = 0
        · have c1 : ((Pu.new p.nm p.h0 p.h1).check != 0) = false := by simpa using hq
          have Hq := Lib.hid hq
          clear hq
          go_wp2_with fail
          refine (pnew_any p.nm p.h0 p.h1 wr).mono ?_
          rintro e w4 ⟨he, hb4⟩
          rw [if_pos Hq.out] at he
          subst he
          have HXp4 := Lib.hid (block_below HXpr.out hb4 hgp)
          have hg4 := block_lt HXp4.out
          have Hb4 := Lib.hid (Hbr.out.trans (hb4.mono Hbr.out.size))
          clear z0 z1 z2 z3 z4 z5 z6 z7 z9 z10 u0 u1 u2 u3 u4 u5 u6 u7 hb4
          obtain ⟨z0, z1, z2, z3, z4, z5, z6, z7, -, z9, z10, -⟩ := PBox.all HXp4.out
          have hself : ((Pu.new p.nm p.h0 p.h1).same (Pu.new p.nm p.h0 p.h1)) = true := same_refl _
          have hA0 : ∀ v, PuV.At (Pu.new p.nm p.h0 p.h1) none 0 0 v := fun v => ⟨by simpa [flatH, Pu.new] using Rd.empty, by omega, by omega⟩
          have HA0 := Lib.hid hA0
          clear hA0
          have HT12 : Hid (((w4.alloc (.cells #[.int .u8 (p.nm.x0 : Int), .int .u8 (p.nm.x1 : Int), .int .u8 (p.nm.x2 : Int), .int .u8 (p.nm.x3 : Int), .int .u8 (p.nm.x4 : Int), .int .u8 (p.nm.x5 : Int), .int .u8 (p.nm.x6 : Int), .int .u8 (p.nm.x7 : Int), .int .i64 0, .int .i64 p.h0, .int .i64 p.h1, .slice none 0 0] 32)).alloc (.cells #[.int .u8 (p.nm.x0 : Int), .int .u8 (p.nm.x1 : Int), .int .u8 (p.nm.x2 : Int), .int .u8 (p.nm.x3 : Int), .int .u8 (p.nm.x4 : Int), .int .u8 (p.nm.x5 : Int), .int .u8 (p.nm.x6 : Int), .int .u8 (p.nm.x7 : Int), .int .i64 0, .int .i64 p.h0, .int .i64 p.h1, .slice none 0 0] 26)).heap[w4.heap.size]? = some (.cells #[.int .u8 (p.nm.x0 : Int), .int .u8 (p.nm.x1 : Int), .int .u8 (p.nm.x2 : Int), .int .u8 (p.nm.x3 : Int), .int .u8 (p.nm.x4 : Int), .int .u8 (p.nm.x5 : Int), .int .u8 (p.nm.x6 : Int), .int .u8 (p.nm.x7 : Int), .int .i64 0, .int .i64 p.h0, .int .i64 p.h1, .slice none 0 0] 32 (0, 0))) := block_alloc (heap_alloc_new w4 _) _
          have HT14 : Hid (((w4.alloc (.cells #[.int .u8 (p.nm.x0 : Int), .int .u8 (p.nm.x1 : Int), .int .u8 (p.nm.x2 : Int), .int .u8 (p.nm.x3 : Int), .int .u8 (p.nm.x4 : Int), .int .u8 (p.nm.x5 : Int), .int .u8 (p.nm.x6 : Int), .int .u8 (p.nm.x7 : Int), .int .i64 0, .int .i64 p.h0, .int .i64 p.h1, .slice none 0 0] 32)).alloc (.cells #[.int .u8 (p.nm.x0 : Int), .int .u8 (p.nm.x1 : Int), .int .u8 (p.nm.x2 : Int), .int .u8 (p.nm.x3 : Int), .int .u8 (p.nm.x4 : Int), .int .u8 (p.nm.x5 : Int), .int .u8 (p.nm.x6 : Int), .int .u8 (p.nm.x7 : Int), .int .i64 0, .int .i64 p.h0, .int .i64 p.h1, .slice none 0 0] 26)).heap[w4.heap.size + 1]? = some (.cells #[.int .u8 (p.nm.x0 : Int), .int .u8 (p.nm.x1 : Int), .int .u8 (p.nm.x2 : Int), .int .u8 (p.nm.x3 : Int), .int .u8 (p.nm.x4 : Int), .int .u8 (p.nm.x5 : Int), .int .u8 (p.nm.x6 : Int), .int .u8 (p.nm.x7 : Int), .int .i64 0, .int .i64 p.h0, .int .i64 p.h1, .slice none 0 0] 26 (0, 0))) := alloc_at (by simp)
          go_wp2_with fail
          refine (checkr_any (Pu.new p.nm p.h0 p.h1) none 0 0 _ (HA0.out _)).mono ?_
          rintro e w5 ⟨rfl, hb5⟩
          replace HT12 := Lib.hid (block_below HT12.out hb5 (by simp; omega))
          replace HT14 := Lib.hid (block_below HT14.out hb5 (by simp))
          have Hb5 := Lib.hid (((Hb4.out.alloc Hb4.out.size _).alloc (by simp; have := Hb4.out.size; omega) _).trans (hb5.mono (by simp; have := Hb4.out.size; omega)))
          clear hb5 z0 z1 z2 z3 z4 z5 z6 z7 z9 z10
          go_wp2
          replace HT12 := Lib.hid (show w5.drew.heap[w4.heap.size]? = _ from HT12.out)
          replace HT14 := Lib.hid (show w5.drew.heap[w4.heap.size + 1]? = _ from HT14.out)
          replace Hb5 := Lib.hid Hb5.out.drew
          first
            | (go_region_held3 (fun w' => (w'.cell? ⟨w4.heap.size, 0, none⟩ = some (.int .u8 (p.nm.x0 : Int)) ∧ w'.cell? ⟨w4.heap.size, 1, none⟩ = some (.int .u8 (p.nm.x1 : Int)) ∧ w'.cell? ⟨w4.heap.size, 2, none⟩ = some (.int .u8 (p.nm.x2 : Int)) ∧ w'.cell? ⟨w4.heap.size, 3, none⟩ = some (.int .u8 (p.nm.x3 : Int)) ∧ w'.cell? ⟨w4.heap.size, 4, none⟩ = some (.int .u8 (p.nm.x4 : Int)) ∧ w'.cell? ⟨w4.heap.size, 5, none⟩ = some (.int .u8 (p.nm.x5 : Int)) ∧ w'.cell? ⟨w4.heap.size, 6, none⟩ = some (.int .u8 (p.nm.x6 : Int)) ∧ w'.cell? ⟨w4.heap.size, 7, none⟩ = some (.int .u8 (p.nm.x7 : Int)) ∧ w'.cell? ⟨w4.heap.size, 8, none⟩ = some (.int .i64 0) ∧ w'.cell? ⟨w4.heap.size, 9, none⟩ = some (.int .i64 p.h0) ∧ w'.cell? ⟨w4.heap.size, 10, none⟩ = some (.int .i64 p.h1) ∧ w'.cell? ⟨w4.heap.size, 11, none⟩ = some (.slice none 0 0)) ∧ (w'.cell? ⟨(w4.heap.size + 1), 0, none⟩ = some (.int .u8 (p.nm.x0 : Int)) ∧ w'.cell? ⟨(w4.heap.size + 1), 1, none⟩ = some (.int .u8 (p.nm.x1 : Int)) ∧ w'.cell? ⟨(w4.heap.size + 1), 2, none⟩ = some (.int .u8 (p.nm.x2 : Int)) ∧ w'.cell? ⟨(w4.heap.size + 1), 3, none⟩ = some (.int .u8 (p.nm.x3 : Int)) ∧ w'.cell? ⟨(w4.heap.size + 1), 4, none⟩ = some (.int .u8 (p.nm.x4 : Int)) ∧ w'.cell? ⟨(w4.heap.size + 1), 5, none⟩ = some (.int .u8 (p.nm.x5 : Int)) ∧ w'.cell? ⟨(w4.heap.size + 1), 6, none⟩ = some (.int .u8 (p.nm.x6 : Int)) ∧ w'.cell? ⟨(w4.heap.size + 1), 7, none⟩ = some (.int .u8 (p.nm.x7 : Int)) ∧ w'.cell? ⟨(w4.heap.size + 1), 8, none⟩ = some (.int .i64 0) ∧ w'.cell? ⟨(w4.heap.size + 1), 9, none⟩ = some (.int .i64 p.h0) ∧ w'.cell? ⟨(w4.heap.size + 1), 10, none⟩ = some (.int .i64 p.h1) ∧ w'.cell? ⟨(w4.heap.size + 1), 11, none⟩ = some (.slice none 0 0)))
                (exact ⟨PBox.all (p := Pu.new p.nm p.h0 p.h1) HT12.out, PBox.all (p := Pu.new p.nm p.h0 p.h1) HT14.out⟩)
                (first
                 | (go_at_call 13; go_must (refine ((own_any (Pu.new p.nm p.h0 p.h1) none 0 0 _ (HA0.out _)).mono fun _ _ h => atPu h (Nat.zero_le _)).mono ?_; rintro e w6 ⟨A7, n7, c7, rfl, ha7, hb⟩; have HA7 := Lib.hid ha7; replace HT12 := Lib.hid (block_below HT12.out hb (block_lt HT12.out)); replace HT14 := Lib.hid (block_below HT14.out hb (block_lt HT14.out)); replace Hb5 := Lib.hid (Hb5.out.trans (hb.mono Hb5.out.size)); clear hb ha7))
                 | (go_at_call 20; go_must (refine (psame_any (Pu.new p.nm p.h0 p.h1) (Pu.new p.nm p.h0 p.h1) none A7 0 0 n7 c7 _ (HA0.out _) HA7.out).mono ?_; rintro e w7 ⟨rfl, hb⟩; replace HT12 := Lib.hid (block_below HT12.out hb (block_lt HT12.out)); replace HT14 := Lib.hid (block_below HT14.out hb (block_lt HT14.out)); replace Hb5 := Lib.hid (Hb5.out.trans (hb.mono Hb5.out.size)); clear hb))
                 | (go_at_call 12; go_must (refine (told_any _).mono ?_; rintro e w8 ⟨rfl, hb⟩; replace HT12 := Lib.hid (block_below HT12.out hb (block_lt HT12.out)); replace HT14 := Lib.hid (block_below HT14.out hb (block_lt HT14.out)); replace Hb5 := Lib.hid (Hb5.out.trans (hb.mono Hb5.out.size)); clear hb))))
            | fail
          all_goals
            go_wp2
            go_ret
            exact ⟨rfl, Hb5.out⟩
        · have c1 : ((Pu.new p.nm p.h0 p.h1).check != 0) = true := by simpa using hq
          have Hq := Lib.hid hq
          clear hq
          go_wp2_with fail
          refine (pnew_any p.nm p.h0 p.h1 wr).mono ?_
          rintro e w4 ⟨he, hb4⟩
          rw [if_neg Hq.out] at he
          subst he
          have HXp4 := Lib.hid (block_below HXpr.out hb4 hgp)
          have hg4 := block_lt HXp4.out
          have Hb4 := Lib.hid (Hbr.out.trans (hb4.mono Hbr.out.size))
          clear z0 z1 z2 z3 z4 z5 z6 z7 z9 z10 u0 u1 u2 u3 u4 u5 u6 u7 hb4
          obtain ⟨z0, z1, z2, z3, z4, z5, z6, z7, -, z9, z10, -⟩ := PBox.all HXp4.out
          have HT12 : Hid (((w4.alloc (.cells #[.int .u8 0, .int .u8 0, .int .u8 0, .int .u8 0, .int .u8 0, .int .u8 0, .int .u8 0, .int .u8 0, .int .i64 0, .int .i64 0, .int .i64 0, .slice none 0 0] 32)).alloc (.cells #[.int .u8 (p.nm.x0 : Int), .int .u8 (p.nm.x1 : Int), .int .u8 (p.nm.x2 : Int), .int .u8 (p.nm.x3 : Int), .int .u8 (p.nm.x4 : Int), .int .u8 (p.nm.x5 : Int), .int .u8 (p.nm.x6 : Int), .int .u8 (p.nm.x7 : Int), .int .i64 0, .int .i64 p.h0, .int .i64 p.h1, .slice none 0 0] 26)).heap[w4.heap.size]? = some (.cells #[.int .u8 0, .int .u8 0, .int .u8 0, .int .u8 0, .int .u8 0, .int .u8 0, .int .u8 0, .int .u8 0, .int .i64 0, .int .i64 0, .int .i64 0, .slice none 0 0] 32 (0, 0))) := block_alloc (heap_alloc_new w4 _) _
          go_wp2_with fail
          refine (checkr_any (Pu.new p.nm p.h0 p.h1) none 0 0 _ ⟨by simpa [flatH, Pu.new] using Rd.empty, by omega, by omega⟩).mono ?_
          rintro e w5 ⟨rfl, hb5⟩
          have HT12 := Lib.hid (block_below HT12.out hb5 (by simp; omega))
          have Hb5 := Lib.hid (((Hb4.out.alloc Hb4.out.size _).alloc (by simp; have := Hb4.out.size; omega) _).trans (hb5.mono (by simp; have := Hb4.out.size; omega)))
          clear hb5 z0 z1 z2 z3 z4 z5 z6 z7 z9 z10
          obtain ⟨z0, z1, z2, z3, z4, z5, z6, z7, z8, z9, z10, z11⟩ := PBox.all (p := pu0) HT12.out
          have hself : pu0.same pu0 = true := same_refl _
          have H0 : PuV.At pu0 none 0 0 w5 := ⟨by simpa [flatH, pu0] using Rd.empty, by omega, by omega⟩
          have HA0 := Lib.hid H0
          clear H0
          go_wp2_with fail
          refine (psame_any pu0 pu0 none none 0 0 0 0 w5 HA0.out HA0.out).mono ?_
          rintro e w6 ⟨rfl, hb6⟩
          have Hb6 := Lib.hid (Hb5.out.trans (hb6.mono Hb5.out.size))
          clear hb6 z0 z1 z2 z3 z4 z5 z6 z7 z8 z9 z10 z11
          go_wp2_with (go_at_call 12; refine (told_any _).mono ?_; rintro e w7 ⟨rfl, hb7⟩; have Hb7 := Lib.hid (Hb6.out.trans (hb7.mono Hb6.out.size)); clear hb7)
          go_ret
          exact ⟨rfl, Hb7.out⟩
end Go.Proofs.Ytjiecnoplnaahaa
