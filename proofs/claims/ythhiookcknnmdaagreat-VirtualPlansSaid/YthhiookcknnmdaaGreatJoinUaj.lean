/- What the law begins with, plainly: its keys, purses, plan, way. No program in it, so there is no condition. The walk of the law's begin. Conditions: bounds. A way's deeds within the law's world. Conditions: it lies in memory; room in the book. The example of the law, plainly. No program in it, so there is no condition. The walk of the law's example: it is as the document says. Nothing is asked of the world. -/
import Derived.Test.YthhiookcknnmdaaGreatJoinUai
namespace Go.Proofs.YthhiookcknnmdaaGreat
def hvA (hv : List Nat) (j : Nat) : Int := ((hv.getD j 0 : Nat) : Int)
def bgP (a b : Nat) (hv : List Nat) (i : Nat) : Pu := Pu.new (byD (1 + i)) (hvA hv (2 * i) + 1 + a) (hvA hv (2 * i + 1) + 1 + b)
def bgKs (n : Nat) : List D8 := (List.range (n + 1)).map keyD
def bgPs (a b : Nat) (hv : List Nat) (n : Nat) : List Pu := (List.range n).map (bgP a b hv)
def bgPl (n a b : Nat) : Pl := Pl.mk_ tabD (bgKs n) (1 + a) (1 + b) 100 10
def bgY (n a b : Nat) (hv : List Nat) : Wy := Wy.begin (bgPl n a b) (bgPs a b hv n)
def bgN (hops : Nat) : Nat := 1 + hops % 4
theorem bgN_in (hops : Nat) : 1 ≤ bgN hops ∧ bgN hops ≤ 4 := by unfold bgN; omega
theorem hvA_le {hv : List Nat} (h : ∀ x ∈ hv, x < 256) (j : Nat) : 0 ≤ hvA hv j ∧ hvA hv j ≤ 255 := by
 unfold hvA
 rw [List.getD_eq_getElem?_getD]
 cases hj : hv[j]? with
 | none => simp
 | some x => have := h x (List.mem_of_getElem? hj); simp; omega
theorem bgKs_len (n : Nat) : (bgKs n).length = n + 1 := by simp [bgKs]
theorem bgPs_len (a b : Nat) (hv : List Nat) (n : Nat) : (bgPs a b hv n).length = n := by simp [bgPs]
theorem bgKs_getD {n k : Nat} (hk : k ≤ n) : (bgKs n).getD k dz8 = keyD k := by
 unfold bgKs
 rw [List.getD_eq_getElem?_getD, List.getElem?_map, List.getElem?_range (by omega)]; rfl
theorem bgPs_getD {a b : Nat} {hv : List Nat} {n k : Nat} (hk : k < n) : (bgPs a b hv n).getD k default = bgP a b hv k := by
 unfold bgPs
 rw [List.getD_eq_getElem?_getD, List.getElem?_map, List.getElem?_range hk]; rfl
theorem bgKs_ok {n : Nat} (hn : n ≤ 100) : ∀ d ∈ bgKs n, d.ok := fun d hd => by
 unfold bgKs at hd
 obtain ⟨k, hk, rfl⟩ := List.mem_map.1 hd
 rw [List.mem_range] at hk
 exact byD_ok (by omega)
theorem bgPs_fit {a b : Nat} {hv : List Nat} (ha : a < 256) (hb : b < 256) (hh : ∀ x ∈ hv, x < 256) (n : Nat) : ∀ q ∈ bgPs a b hv n, q.held = [] ∧ q.check = 0 := fun q hq => by
 unfold bgPs at hq
 obtain ⟨k, _, rfl⟩ := List.mem_map.1 hq
 refine ⟨rfl, ?_⟩
 have h1 := hvA_le hh (2 * k)
 have h2 := hvA_le hh (2 * k + 1)
 rw [check_iff]
 refine ⟨⟨?_, ?_⟩, ⟨?_, ?_⟩, ⟨?_, ?_⟩, ?_, ⟨?_, ?_⟩, ?_, ?_⟩ <;> simp [bgP, Pu.new, Pu.sum, sumL] <;> omega
theorem bgP_new {a b : Nat} {hv : List Nat} (ha : a < 256) (hb : b < 256) (hh : ∀ x ∈ hv, x < 256) (i : Nat) : (Pu.new (byD (1 + i)) (hvA hv (2 * i) + 1 + a) (hvA hv (2 * i + 1) + 1 + b)).check = 0 := by
 have : bgP a b hv i ∈ bgPs a b hv (i + 1) := by unfold bgPs; exact List.mem_map.2 ⟨i, by simp, rfl⟩
 exact (bgPs_fit ha hb hh (i + 1) _ this).2
theorem bgPl_check {n a b : Nat} (h1 : 1 ≤ n) (h4 : n ≤ 4) (ha : a < 256) (hb : b < 256) : (bgPl n a b).check 10 = 0 := by
 have hs0 : stkB (1 + (a : Int)) = true := by simp [stkB]; omega
 have hs1 : stkB (1 + (b : Int)) = true := by simp [stkB]; omega
 have e : (bgPl n a b).check 10 = (bgPl n 0 0).check 10 := by
  have y0 : stkB (bgPl n a b).s0 = true := hs0
  have y1 : stkB (bgPl n a b).s1 = true := hs1
  have z0 : stkB (bgPl n 0 0).s0 = true := by show stkB (1 + ((0 : Nat) : Int)) = true; decide
  have z1 : stkB (bgPl n 0 0).s1 = true := by show stkB (1 + ((0 : Nat) : Int)) = true; decide
  unfold Pl.check
  rw [y0, y1, z0, z1]
  rfl
 rw [e]
 rcases (show n = 1 ∨ n = 2 ∨ n = 3 ∨ n = 4 by omega) with rfl | rfl | rfl | rfl <;> decide +kernel
theorem bgPl_new {n a b : Nat} (h1 : 1 ≤ n) (h4 : n ≤ 4) (ha : a < 256) (hb : b < 256) : Pl.new tabD (bgKs n) (1 + a) (1 + b) 100 10 = (0, bgPl n a b) := by
 have hc : (Pl.mk_ tabD (bgKs n) (1 + (a : Int)) (1 + (b : Int)) 100 10).check 10 = 0 := bgPl_check h1 h4 ha hb
 unfold Pl.new
 have hm : manyB (bgKs n).length = true := by rw [bgKs_len]; simp [manyB]; omega
 rw [if_pos (by decide), if_pos (by decide), if_pos hm, if_pos hc]
 rfl
theorem bgP_nm (a b : Nat) (hv : List Nat) (i : Nat) : (bgP a b hv i).nm = byD (1 + i) := rfl
theorem bgP_apart {a b : Nat} {hv : List Nat} {j k : Nat} (h : j < k) : eqI (bgP a b hv j).nm.L (bgP a b hv k).nm.L = false := by
 rw [bgP_nm, bgP_nm]
 cases he : eqI (byD (1 + j)).L (byD (1 + k)).L with
 | false => rfl
 | true =>
  have := congrArg D8.x0 (eqI_iff8.1 he)
  simp only [byD] at this
  omega
theorem bgY_ok {n a b : Nat} {hv : List Nat} (h1 : 1 ≤ n) (h4 : n ≤ 4) (ha : a < 256) (hb : b < 256) : (bgY n a b hv).Ok :=
 ⟨.of (bgPl_check h1 h4 ha hb) (byD_ok (by decide)) (bgKs_ok (by omega)), by show (bgPs a b hv n).length + 1 = (bgKs n).length; rw [bgPs_len, bgKs_len], by show (List.replicate (bgKs n).length false).length = (bgKs n).length; rw [List.length_replicate]⟩
end Go.Proofs.YthhiookcknnmdaaGreat
namespace Go.Proofs.YthhiookcknnmdaaGreat
open Go.RowKit Go.Lib
structure BgAt (w : World) (B : Nat) (Au : Option Addr) (n cu : Nat) (lp : List PuA) : Prop where
 own : w.ownsRow 0 85 12 (.slice Au n cu) n (flatP lp)
 lt : ∀ g, (Value.slice Au n cu).ownBlock = some g → g < B
 nil : ∀ x ∈ lp, x.A = none ∧ x.n = 0
def puN (p : Pu) : PuA := ⟨p, none, 0, 0⟩
theorem info_dig : (Tryz.prog.info? 27).map (fun i => (i.zero, i.size, i.bytes)) = some (some (.agg #[.int .u8 0, .int .u8 0, .int .u8 0, .int .u8 0, .int .u8 0, .int .u8 0, .int .u8 0, .int .u8 0]), 8, 8) := by kernel_rfl
theorem flatP_one (x : PuA) : flatP [x] = x.cells := by simp [flatP]
theorem bgA_at {a b : Nat} {hv : List Nat} {n i : Nat} (hi : i < n) : (((bgPs a b hv n).map puN).getD i default).p = bgP a b hv i := by
 have h5 := bgPs_getD (a := a) (b := b) (hv := hv) hi
 rw [List.getD_eq_getElem?_getD] at h5 ⊢
 rw [List.getElem?_map]
 cases h : (bgPs a b hv n)[i]? with
 | none => rw [List.getElem?_eq_none_iff, bgPs_len] at h; omega
 | some q => rw [h] at h5; exact h5
theorem ret_pl {p : Pl} {n a b : Nat} (h1 : 1 ≤ n) (h4 : n ≤ 4) (ha : a < 256) (hb : b < 256) (Ak : Option Addr) (ck : Nat) (w : World) (h : Rd w w.heap.size 8 Ak (n + 1) (flatD (bgKs n))) (hp : bgPl n a b = p) :
  Calls Tryz.prog 12 #[.agg #[.int .u8 tabD.x0, .int .u8 tabD.x1, .int .u8 tabD.x2, .int .u8 tabD.x3, .int .u8 tabD.x4, .int .u8 tabD.x5, .int .u8 tabD.x6, .int .u8 tabD.x7], .slice Ak (n + 1) ck, .agg #[.int .i64 (1 + (a : Int)), .int .i64 (1 + (b : Int))], .int .i64 100, .int .i64 10] w (GivesPl p 0 w) := by
 have := newplan_any tabD (bgKs n) (1 + (a : Int)) (1 + (b : Int)) 100 10 Ak (n + 1) ck w h (by omega)
 rw [bgPl_new h1 h4 ha hb, hp] at this
 exact this
section
variable {w : World}
set_option maxRecDepth 100000 in
set_option maxHeartbeats 4000000 in
theorem lbegin_any (hops a b : Nat) (hv : List Nat) (Ah : Option Addr) (nh ch : Nat) (w : World) (hh : hops < 256) (ha : a < 256) (hb : b < 256) (hr : Rd w w.heap.size 1 Ah nh (bv hv)) (hn : nh ≤ 1000) (hv2 : ∀ x ∈ hv, x < 256) :
  Calls Tryz.prog 19 #[.int .u8 hops, .agg #[.int .u8 a, .int .u8 b], .slice Ah nh ch] w fun e w' => ∃ wob B Bb wb bk mb aW Ak ck An cn Af cf Au cu, e = .returned (.pointer (some ⟨wob, 0, none⟩)) ∧
   LwAt w' B Bb wob wb bk mb (bgY (bgN hops) a b hv) aW [] Ak (bgN hops + 1) ck An (bgN hops) cn Af (bgN hops) cf (.slice Au (bgN hops) cu) ∧ BgAt w' B Au (bgN hops) cu ((bgPs a b hv (bgN hops)).map puN) ∧ Below w.heap.size w w' ∧ w.heap.size ≤ bk ∧ w.heap.size ≤ mb ∧ w.heap.size ≤ B := by
 obtain ⟨hn1, hn4⟩ := bgN_in hops
 have hw8 : (hops : Int) % 4 + 1 = ((bgN hops : Nat) : Int) := by unfold bgN; omega
 have hN : (1 : Int) + (hops : Int) % 4 = ((bgN hops : Nat) : Int) := by unfold bgN; omega
 have hm4 : (0 : Int) ≤ (hops : Int) % 4 := by omega
 have hm5 : (hops : Int) % 4 < 4 := by omega
 have HR := Lib.hid hr; have HV := Lib.hid hv2
 have Hhl : Hid (hv.length = nh) := by show _ = _; have := hr.1; simp [bv] at this; omega
 clear hr hv2 hw8
 generalize bgN hops = n at *
 have HN := Lib.hid hN
 clear hN
 go_enter Tryz.func19, Tryz.ntmps19
 go_upto_region 5 with (go_at_call 59; refine (newBook_any _).mono ?_; rintro e w1 ⟨rfl, hbk, hb1⟩)
 rw [HN.out]
 clear HN hm4 hm5
 have HX1 : Hid (w1.heap[w.heap.size]? = some (.cells #[.int .u8 a, .int .u8 b] 45 (0, 0))) := Lib.hid (block_below (heap_alloc_new w _) hb1 (by simp))
 have HBk1 : Hid (BookAt w1 (w.heap.size + 3) (w.heap.size + 1 + 1) (w.heap.size + 1) []) := Lib.hid (by simpa using hbk)
 have Hb1 : Hid (Below w.heap.size w w1) := Lib.hid ((below_one w _).trans (hb1.mono (by simp)))
 have hs1 : w.heap.size + 3 ≤ w1.heap.size := HBk1.out.hB
 clear hbk hb1
 obtain ⟨i0, hi, hz0, hz1, hz2⟩ := info_parts info_dig
 have HI := Lib.hid (And.intro hi (And.intro hz0 (And.intro hz1 hz2))); clear hi hz0 hz1 hz2
 go_upto_region 8 with fail
 go_loopw [9, 30] (fun v i wr => ∃ (k : Nat) (A' : Option Addr) (c' : Nat), k ≤ n + 1 ∧ v = .slice A' k c' ∧ i = .int .i64 k ∧ Hid (wr.ownsRow w1.heap.size 27 8 (.slice A' k c') k (flatD ((List.range k).map keyD))) ∧ Hid (Below w1.heap.size w1 wr)) (fun _ i _ => n + 1 - (RowKit.intOf i).toNat)
 case atStart => exact ⟨0, none, 0, by omega, rfl, rfl, Lib.hid (World.ownsRow_nil _ _ _ _), Lib.hid (Below.refl _ _)⟩
 case round =>
  obtain ⟨k, A', c', hk, rfl, rfl, HO, HB⟩ := hrel
  by_cases hlt : k < n + 1
  ·have hd1 : decide ((k : Int) < (n : Int) + 1) = true := decide_eq_true (by omega)
   have hki : (k : Int) < (n : Int) + 1 := by omega
   have Hrs : Hid (flatD ((List.range (k + 1)).map keyD) = flatD ((List.range k).map keyD) ++ [.int .u8 (keyD k).x0, .int .u8 (keyD k).x1, .int .u8 (keyD k).x2, .int .u8 (keyD k).x3, .int .u8 (keyD k).x4, .int .u8 (keyD k).x5, .int .u8 (keyD k).x6, .int .u8 (keyD k).x7]) := Lib.hid (by rw [List.range_succ, List.map_append, flatD_append]; simp [flatD, D8.cells])
   have hkk : k ≤ 200 := by omega
   have hkey := key_any k hkk wr
   generalize keyD k = kd at *
   have HKey := Lib.hid hkey
   clear hkey
   go_upto_region 11 with (first | (go_at_call 11; refine HKey.out.mono ?_; rintro e w2 ⟨rfl, hb2⟩; have HB2 := Lib.hid (HB.out.trans (hb2.mono HB.out.size)); have HO2 := Lib.hid (own_below HO.out hb2); clear hb2; have hs2 := HB2.out.size) | (at_builtin; go_must (refine append_at w2 (by rfl) _ _ 25 (by rfl) w1.heap.size 27 i0 (.agg #[.int .u8 0, .int .u8 0, .int .u8 0, .int .u8 0, .int .u8 0, .int .u8 0, .int .u8 0, .int .u8 0]) 8 8 Tryz.underlying25 HI.out rfl (by decide) _ _ _ (by rfl) HO2.out 1 1 #[.int .u8 kd.x0, .int .u8 kd.x1, .int .u8 kd.x2, .int .u8 kd.x3, .int .u8 kd.x4, .int .u8 kd.x5, .int .u8 kd.x6, .int .u8 kd.x7] 27 (by simp [Act.eval]) rfl (by simp [Value.oneCell']) (by omega) (by omega) hs2 ?_; intro v7 w7 own7 bel7 gr7 at7; obtain ⟨A7, c7, rfl⟩ := own_form own7; have O7 := Lib.hid own7; have HB7 : Hid (Below w1.heap.size w1 w7) := Lib.hid (HB2.out.trans bel7); clear own7 bel7 gr7 at7)))
   go_wp2
   go_roundw
   case rel => exact ⟨k + 1, A7, c7, hlt, rfl, by go_num, by rw [Hrs.out]; exact O7, HB7⟩
   case measure => simp [RowKit.intOf]; omega
  ·have hkn : k = n + 1 := by omega
   subst hkn
   have hd1 : decide (((n + 1 : Nat) : Int) < (n : Int) + 1) = false := decide_eq_false (by omega)
   have HKs := HO
   obtain ⟨Aq, hAq⟩ : ∃ Aq, Aq = A' := ⟨_, rfl⟩
   obtain ⟨cq, hcq⟩ : ∃ cq, cq = c' := ⟨_, rfl⟩
   subst hAq hcq
   obtain ⟨w3, hw3⟩ : ∃ w3 : World, w3 = wr := ⟨_, rfl⟩
   subst hw3
   go_upto_region 13 with fail
   obtain ⟨i1, hi, hz0, hz1, hz2⟩ := info_parts info_Pu
   have HI1 := Lib.hid (And.intro hi (And.intro hz0 (And.intro hz1 hz2))); clear hi hz0 hz1 hz2
   have Hb3 := Lib.hid (Hb1.out.trans (HB.out.mono Hb1.out.size))
   have HX3 := Lib.hid (block_below HX1.out HB.out (by omega))
   have HBk3 := Lib.hid (HBk1.out.below HB.out)
   have HR3 := Lib.hid (HR.out.below Hb3.out (Nat.le_refl _))
   go_loopw [10, 40] (fun v i wr => ∃ (k : Nat) (A' : Option Addr) (c' : Nat), k ≤ n ∧ v = .slice A' k c' ∧ i = .int .i64 k ∧ Hid (wr.ownsRow w3.heap.size 85 12 (.slice A' k c') k (flatP ((bgPs a b hv k).map puN))) ∧ Hid (Below w3.heap.size w3 wr)) (fun _ i _ => n - (RowKit.intOf i).toNat)
   case atStart => exact ⟨0, none, 0, by omega, rfl, rfl, Lib.hid (World.ownsRow_nil _ _ _ _), Lib.hid (Below.refl _ _)⟩
   case round =>
    obtain ⟨k, A', c', hk, rfl, rfl, HO, HB'⟩ := hrel
    by_cases hlt' : k < n
    ·have hd1' : decide ((k : Int) < (n : Int)) = true := decide_eq_true (by omega)
     have hki : (k : Int) < (n : Int) := by omega
     have Hrs : Hid (flatP ((bgPs a b hv (k + 1)).map puN) = flatP ((bgPs a b hv k).map puN) ++ [.int .u8 ((byD (1 + k)).x0 : Int), .int .u8 ((byD (1 + k)).x1 : Int), .int .u8 ((byD (1 + k)).x2 : Int), .int .u8 ((byD (1 + k)).x3 : Int), .int .u8 ((byD (1 + k)).x4 : Int), .int .u8 ((byD (1 + k)).x5 : Int), .int .u8 ((byD (1 + k)).x6 : Int), .int .u8 ((byD (1 + k)).x7 : Int), .int .i64 0, .int .i64 (hvA hv (2 * k) + 1 + a), .int .i64 (hvA hv (2 * k + 1) + 1 + b), .slice none 0 0]) := Lib.hid (by
      have e : bgPs a b hv (k + 1) = bgPs a b hv k ++ [bgP a b hv k] := by unfold bgPs; rw [List.range_succ, List.map_append]; rfl
      rw [e, List.map_append, flatP_append]; rfl)
     have hwb := HB'.out.size
     obtain ⟨wo, rfl⟩ : ∃ wo : World, wo = wr := ⟨_, rfl⟩
     have HXo := Lib.hid (block_alloc (block_below HX3.out HB'.out (block_lt HX3.out)) (.cells #[.int .i64 0, .int .i64 0] 29))
     have HOo := Lib.hid (HO.out.alloc (.cells #[.int .i64 0, .int .i64 0] 29))
     have HQ0 : Hid ((wo.alloc (.cells #[.int .i64 0, .int .i64 0] 29)).heap[wo.heap.size]? = some (.cells #[.int .i64 0, .int .i64 0] 29 (0, 0))) := heap_alloc_new _ _
     have HBo : Hid (Below w.heap.size w (wo.alloc (.cells #[.int .i64 0, .int .i64 0] 29))) := Lib.hid ((Hb3.out.trans (HB'.out.mono Hb3.out.size)).trans ((below_one wo _).mono (by have := Hb3.out.size; omega)))
     have HBp : Hid (Below w3.heap.size w3 (wo.alloc (.cells #[.int .i64 0, .int .i64 0] 29))) := Lib.hid (HB'.out.trans ((below_one wo _).mono hwb))
     go_upto_region 17 with fail
     generalize wo.alloc (.cells #[.int .i64 0, .int .i64 0] 29) = w4 at *
     go_loopw [43] (fun i w9 => ∃ j : Nat, j ≤ 2 ∧ i = .int .i64 j ∧ Hid (w9.heap[wo.heap.size]? = some (.cells #[.int .i64 (if 0 < j then hvA hv (2 * k) else 0), .int .i64 (if 1 < j then hvA hv (2 * k + 1) else 0)] 29 (0, 0))) ∧ Hid (w4.grownBy w9 (some wo.heap.size))) (fun i _ => 2 - (RowKit.intOf i).toNat)
     case atStart => exact ⟨0, by omega, rfl, HQ0, Lib.hid (World.grownBy.refl _ _)⟩
     case round =>
      obtain ⟨j, hj, rfl, HQ, HG⟩ := hrel
      by_cases hj2 : j < 2
      ·have hd2 : decide ((j : Int) < 2) = true := decide_eq_true (by omega)
       have hji : (j : Int) < 2 := by omega
       obtain ⟨cv, hcv⟩ : ∃ cv, wr.cell? ⟨wo.heap.size, j, none⟩ = some cv := by
        rw [block_cell HQ.out]
        rcases (show j = 0 ∨ j = 1 by omega) with rfl | rfl
        ·exact ⟨_, rfl⟩
        ·exact ⟨_, rfl⟩
       have hfr := block_free HQ.out
       have hvb := hvA_le HV.out (2 * k + j)
       have Hst : Hid ((wr.setCell ⟨wo.heap.size, j, none⟩ (.int .i64 (hvA hv (2 * k + j)))).heap[wo.heap.size]? = some (.cells #[.int .i64 (if 0 < j + 1 then hvA hv (2 * k) else 0), .int .i64 (if 1 < j + 1 then hvA hv (2 * k + 1) else 0)] 29 (0, 0))) := Lib.hid (by
        have h1 := Joins.block_setCell (i := j) HQ.out (.int .i64 (hvA hv (2 * k + j)))
        rcases (show j = 0 ∨ j = 1 by omega) with rfl | rfl
        ·simpa using h1
        ·simpa using h1)
       have Hsg : Hid (w4.grownBy (wr.setCell ⟨wo.heap.size, j, none⟩ (.int .i64 (hvA hv (2 * k + j)))) (some wo.heap.size)) := Lib.hid (HG.out.trans (pgrown_set wo.heap.size j _))
       have Hno : Hid (¬ 2 * k + j < nh → wr.heap[wo.heap.size]? = some (.cells #[.int .i64 (if 0 < j + 1 then hvA hv (2 * k) else 0), .int .i64 (if 1 < j + 1 then hvA hv (2 * k + 1) else 0)] 29 (0, 0))) := Lib.hid (fun hno => by
        have hz : hvA hv (2 * k + j) = 0 := by
         unfold hvA
         rw [List.getD_eq_getElem?_getD, List.getElem?_eq_none (by rw [Hhl.out]; omega)]; rfl
        rcases (show j = 0 ∨ j = 1 by omega) with rfl | rfl
        ·rw [Nat.add_zero] at hz
         rw [hz]; simpa using HQ.out
        ·rw [hz]; simpa using HQ.out)
       by_cases hr2 : 2 * k + j < nh
       ·have hd3 : decide ((2 : Int) * (k : Int) + (j : Int) < (nh : Int)) = true := decide_eq_true (by omega)
        have hHR := HR.out.below ((HBo.out.grown HG.out HBo.out.size (fun g hg => by cases hg; have := Hb3.out.size; omega))) (Nat.le_refl _)
        obtain ⟨pb, po, hA, hpb, hpc⟩ := hHR.byte hr2
        have hval : ((hv.getD (2 * k + j) 0 : Nat) : Int) = hvA hv (2 * k + j) := rfl
        rw [hval] at hpc
        have hti : ((2 : Int) * (k : Int) + (j : Int)).toNat = 2 * k + j := by omega
        have hnn : (0 : Int) ≤ (2 : Int) * (k : Int) + (j : Int) := by omega
        have hlt3 : (2 : Int) * (k : Int) + (j : Int) < (nh : Int) := by omega
        subst hA
        generalize hvA hv (2 * k + j) = v at *
        clear hHR hval
        --<
        have hwj : IntKind.i64.wrap (2 * (k : Int) + (j : Int)) = 2 * (k : Int) + (j : Int) := wrapI_id (by omega) (by omega)
        go_wp2
        go_roundw
        case rel => exact ⟨j + 1, by omega, by go_num, Hst, Hsg⟩
        case measure => simp [RowKit.intOf]; omega
        -->
       ·have hd3 : decide ((2 : Int) * (k : Int) + (j : Int) < (nh : Int)) = false := decide_eq_false (by omega)
        have Hq2 := Lib.hid (Hno.out hr2)
        --<
        have hwj : IntKind.i64.wrap (2 * (k : Int) + (j : Int)) = 2 * (k : Int) + (j : Int) := wrapI_id (by omega) (by omega)
        go_wp2
        go_roundw
        case rel => exact ⟨j + 1, by omega, by go_num, Hq2, HG⟩
        case measure => simp [RowKit.intOf]; omega
        -->
      ·have hj3 : j = 2 := by omega
       subst hj3
       have hd2 : decide (((2 : Nat) : Int) < 2) = false := by decide
       simp only [show (0 < 2) = True from by simp, show (1 < 2) = True from by simp, if_true] at HQ
       have hv0 := hvA_le HV.out (2 * k)
       have hv1 := hvA_le HV.out (2 * k + 1)
       have hnew := bgP_new (i := k) ha hb HV.out
       generalize hvA hv (2 * k) = v0 at *
       generalize hvA hv (2 * k + 1) = v1 at *
       have HNew := Lib.hid hnew
       clear hnew
       have s0 := block_cell HQ.out 0; have s1 := block_cell HQ.out 1
       simp at s0 s1
       have HX5 := Lib.hid (block_grown HXo.out HG.out (by intro e; injection e with e; have := block_lt HX3.out; omega))
       have x0 := block_cell HX5.out 0; have x1 := block_cell HX5.out 1
       simp at x0 x1
       have HO5 := Lib.hid (HOo.out.kept HG.out (.inr fun e => own_ne HOo.out HQ0.out (by decide) e.symm))
       have HB5 := Lib.hid (HBp.out.grown HG.out HBp.out.size (fun g hg => by cases hg; exact hwb))
       have hk256 : (1 : Int) + (k : Int) < 256 := by omega
       have hwk : IntKind.u8.wrap (1 + (k : Int)) = 1 + (k : Int) := by rw [IntKind.wrap_u8]; omega
       have hs5 := HB5.out.size
       --<
       have hP : Calls Tryz.prog 60 #[.agg #[.int .u8 (1 + (k : Int)), .int .u8 0, .int .u8 0, .int .u8 0, .int .u8 0, .int .u8 0, .int .u8 0, .int .u8 0], .int .i64 (v0 + 1 + (a : Int)), .int .i64 (v1 + 1 + (b : Int))] wr fun e w' => e = .returned (.tuple #[.agg #[.int .u8 ((byD (1 + k)).x0 : Int), .int .u8 ((byD (1 + k)).x1 : Int), .int .u8 ((byD (1 + k)).x2 : Int), .int .u8 ((byD (1 + k)).x3 : Int), .int .u8 ((byD (1 + k)).x4 : Int), .int .u8 ((byD (1 + k)).x5 : Int), .int .u8 ((byD (1 + k)).x6 : Int), .int .u8 ((byD (1 + k)).x7 : Int), .int .i64 0, .int .i64 (v0 + 1 + (a : Int)), .int .i64 (v1 + 1 + (b : Int)), .slice none 0 0], .int .i64 0]) ∧ Below wr.heap.size wr w' := by
        have := pnew_any (byD (1 + k)) (v0 + 1 + (a : Int)) (v1 + 1 + (b : Int)) wr
        rw [if_pos HNew.out] at this
        exact this
       have HP := Lib.hid hP
       clear hP
       go_upto_region 23 with (go_at_call 60; refine HP.out.mono ?_; rintro e w6 ⟨rfl, hb6⟩; have HO6 := Lib.hid (own_below HO5.out hb6); have HB6 := Lib.hid (HB5.out.trans (hb6.mono hs5)); clear hb6; generalize byD (1 + k) = dk at *)
       have HO7 := Lib.hid (HO6.out.alloc (.cells #[.int .u8 dk.x0, .int .u8 dk.x1, .int .u8 dk.x2, .int .u8 dk.x3, .int .u8 dk.x4, .int .u8 dk.x5, .int .u8 dk.x6, .int .u8 dk.x7, .int .i64 0, .int .i64 (v0 + 1 + (a : Int)), .int .i64 (v1 + 1 + (b : Int)), .slice none 0 0] 85))
       have HB7 := Lib.hid (HB6.out.alloc HB6.out.size (.cells #[.int .u8 dk.x0, .int .u8 dk.x1, .int .u8 dk.x2, .int .u8 dk.x3, .int .u8 dk.x4, .int .u8 dk.x5, .int .u8 dk.x6, .int .u8 dk.x7, .int .i64 0, .int .i64 (v0 + 1 + (a : Int)), .int .i64 (v1 + 1 + (b : Int)), .slice none 0 0] 85))
       have HT7 : Hid ((w6.alloc (.cells #[.int .u8 dk.x0, .int .u8 dk.x1, .int .u8 dk.x2, .int .u8 dk.x3, .int .u8 dk.x4, .int .u8 dk.x5, .int .u8 dk.x6, .int .u8 dk.x7, .int .i64 0, .int .i64 (v0 + 1 + (a : Int)), .int .i64 (v1 + 1 + (b : Int)), .slice none 0 0] 85)).heap[w6.heap.size]? = some (.cells #[.int .u8 dk.x0, .int .u8 dk.x1, .int .u8 dk.x2, .int .u8 dk.x3, .int .u8 dk.x4, .int .u8 dk.x5, .int .u8 dk.x6, .int .u8 dk.x7, .int .i64 0, .int .i64 (v0 + 1 + (a : Int)), .int .i64 (v1 + 1 + (b : Int)), .slice none 0 0] 85 (0, 0))) := heap_alloc_new _ _
       generalize w6.alloc (.cells #[.int .u8 dk.x0, .int .u8 dk.x1, .int .u8 dk.x2, .int .u8 dk.x3, .int .u8 dk.x4, .int .u8 dk.x5, .int .u8 dk.x6, .int .u8 dk.x7, .int .i64 0, .int .i64 (v0 + 1 + (a : Int)), .int .i64 (v1 + 1 + (b : Int)), .slice none 0 0] 85) = w7 at *
       have hs7 := HB7.out.size
       clear s0 s1 x0 x1 HP
       obtain ⟨_, r0, r1, r2, r3, r4, r5, r6, r7, r8, r9, r10, r11⟩ : True ∧ w7.cell? ⟨w6.heap.size, 0, none⟩ = some (.int .u8 dk.x0) ∧ w7.cell? ⟨w6.heap.size, 1, none⟩ = some (.int .u8 dk.x1) ∧ w7.cell? ⟨w6.heap.size, 2, none⟩ = some (.int .u8 dk.x2) ∧ w7.cell? ⟨w6.heap.size, 3, none⟩ = some (.int .u8 dk.x3) ∧ w7.cell? ⟨w6.heap.size, 4, none⟩ = some (.int .u8 dk.x4) ∧ w7.cell? ⟨w6.heap.size, 5, none⟩ = some (.int .u8 dk.x5) ∧ w7.cell? ⟨w6.heap.size, 6, none⟩ = some (.int .u8 dk.x6) ∧ w7.cell? ⟨w6.heap.size, 7, none⟩ = some (.int .u8 dk.x7) ∧ w7.cell? ⟨w6.heap.size, 8, none⟩ = some (.int .i64 0) ∧ w7.cell? ⟨w6.heap.size, 9, none⟩ = some (.int .i64 (v0 + 1 + (a : Int))) ∧ w7.cell? ⟨w6.heap.size, 10, none⟩ = some (.int .i64 (v1 + 1 + (b : Int))) ∧ w7.cell? ⟨w6.heap.size, 11, none⟩ = some (.slice none 0 0) := ⟨trivial, block_cell HT7.out 0, block_cell HT7.out 1, block_cell HT7.out 2, block_cell HT7.out 3, block_cell HT7.out 4, block_cell HT7.out 5, block_cell HT7.out 6, block_cell HT7.out 7, block_cell HT7.out 8, block_cell HT7.out 9, block_cell HT7.out 10, block_cell HT7.out 11⟩
       go_upto_region 26 with (at_builtin; go_must (refine append_at w7 (by rfl) _ _ 52 (by rfl) w3.heap.size 85 i1 (.agg #[.int .u8 0, .int .u8 0, .int .u8 0, .int .u8 0, .int .u8 0, .int .u8 0, .int .u8 0, .int .u8 0, .int .i64 0, .int .i64 0, .int .i64 0, .slice none 0 0]) 12 56 Tryz.underlying52 HI1.out rfl (by decide) _ _ _ (by rfl) HO7.out 1 1 #[.int .u8 dk.x0, .int .u8 dk.x1, .int .u8 dk.x2, .int .u8 dk.x3, .int .u8 dk.x4, .int .u8 dk.x5, .int .u8 dk.x6, .int .u8 dk.x7, .int .i64 0, .int .i64 (v0 + 1 + (a : Int)), .int .i64 (v1 + 1 + (b : Int)), .slice none 0 0] 85 (by simp [Act.eval]) rfl (by simp [Value.oneCell']) (by omega) (by omega) hs7 ?_; intro v8 w8 own8 bel8 gr8 at8; obtain ⟨A8, c8, rfl⟩ := own_form own8; have O8 := Lib.hid own8; have HB8 : Hid (Below w3.heap.size w3 w8) := Lib.hid (HB7.out.trans bel8); clear own8 bel8 gr8 at8))
       clear r0 r1 r2 r3 r4 r5 r6 r7 r8 r9 r10 r11
       go_wp2
       go_roundw
       case rel => exact ⟨_, .slice A8 (k + 1) c8, _, _, _, _, _, .int .i64 ((k + 1 : Nat) : Int), ⟨k + 1, hlt', A8, c8, rfl, rfl, by rw [Hrs.out]; exact O8⟩, rfl, rfl, rfl, rfl, rfl, rfl, rfl, by go_num⟩
       case measure => simp [RowKit.intOf]; omega
       -->
    ·obtain rfl : n = k := by omega
     have hd1' : decide ((n : Int) < (n : Int)) = false := decide_eq_false (by omega)
     have HX6 := Lib.hid (block_below HX3.out HB'.out (block_lt HX3.out))
     have HBk6 := Lib.hid (HBk3.out.below HB'.out)
     have HK6 := Lib.hid (own_below HKs.out HB'.out)
     have Hb6 := Lib.hid (Hb3.out.trans (HB'.out.mono Hb3.out.size))
     obtain ⟨w6, hw6⟩ : ∃ w6 : World, w6 = wr := ⟨_, rfl⟩
     subst hw6
     go_upto_region 27 with fail
     obtain ⟨p, hp⟩ : ∃ p, bgPl n a b = p := ⟨_, rfl⟩
     have HP := Lib.hid hp
     have hlx := block_lt HX6.out
     have HNP : Hid (∀ w', Below w6.heap.size w6 w' → Calls Tryz.prog 12 #[.agg #[.int .u8 tabD.x0, .int .u8 tabD.x1, .int .u8 tabD.x2, .int .u8 tabD.x3, .int .u8 tabD.x4, .int .u8 tabD.x5, .int .u8 tabD.x6, .int .u8 tabD.x7], .slice Aq (n + 1) cq, .agg #[.int .i64 (1 + (a : Int)), .int .i64 (1 + (b : Int))], .int .i64 100, .int .i64 10] w' (GivesPl p 0 w')) := Lib.hid fun w' hw' => ret_pl hn1 hn4 ha hb _ _ w' (((Rd.of_own HK6.out).below hw' (Nat.le_refl _)).more hw'.size) hp
     clear hp
     go_cut [17, 18] (fun s17 s18 wx => ∃ (pb : Nat) (Ak : Option Addr) (nk ck : Nat) (An : Option Addr) (nn cn : Nat) (Af : Option Addr) (nf cf : Nat), s17 = .pointer (some ⟨pb, 0, none⟩) ∧ s18 = .int .i64 0 ∧ wx.heap[pb]? = some (.cells #[.int .u8 p.tb.x0, .int .u8 p.tb.x1, .int .u8 p.tb.x2, .int .u8 p.tb.x3, .int .u8 p.tb.x4, .int .u8 p.tb.x5, .int .u8 p.tb.x6, .int .u8 p.tb.x7, .slice Ak nk ck, .int .i64 p.s0, .int .i64 p.s1, .slice An nn cn, .slice Af nf cf] 32 (0, 0)) ∧ p.Own w6.heap.size Ak nk ck An nn cn Af nf cf wx ∧ Below w6.heap.size w6 wx ∧ w6.heap.size ≤ pb)
     case first =>
      --<
      refine wp_region_held_drew (S := fun w' => Below w6.heap.size w6 w') (by kernel_rfl) (Below.refl _ _).drew (fun hHeld => ?_)
      have c0 : ∀ w', Below w6.heap.size w6 w' → w'.cell? ⟨w.heap.size, 0, none⟩ = some (.int .u8 a) := fun w' hw' => by have := block_cell (block_below HX6.out hw' hlx) 0; simpa using this
      have c1 : ∀ w', Below w6.heap.size w6 w' → w'.cell? ⟨w.heap.size, 1, none⟩ = some (.int .u8 b) := fun w' hw' => by have := block_cell (block_below HX6.out hw' hlx) 1; simpa using this
      have wa : IntKind.i64.wrap (a : Int) = (a : Int) := wrapI_id (by omega) (by omega)
      have wb : IntKind.i64.wrap (b : Int) = (b : Int) := wrapI_id (by omega) (by omega)
      have wa1 : IntKind.i64.wrap (1 + (a : Int)) = 1 + (a : Int) := wrapI_id (by omega) (by omega)
      have wb1 : IntKind.i64.wrap (1 + (b : Int)) = 1 + (b : Int) := wrapI_id (by omega) (by omega)
      refine takP 1 95 ?_ rfl (by kernel_rfl) (fun _ _ _ => id) ?hy (by assumption) ?_
      case hy => intro w' h; clear h; go_simp; try with_reducible rfl
      simp only [Act.put, sT]
      refine takP 2 96 ?_ rfl (by kernel_rfl) (fun _ _ _ => id) ?hy (by assumption) ?_
      case hy => intro w' h; clear h; go_simp; try with_reducible rfl
      simp only [Act.put, sT]
      refine takP 3 97 ?_ rfl (by kernel_rfl) (fun _ _ _ => id) ?hy (by assumption) ?_
      case hy => intro w' h; have hx := c0 w' h; clear h; go_simp; try with_reducible rfl
      simp only [Act.put, sT]
      refine takP 4 98 ?_ rfl (by kernel_rfl) (fun _ _ _ => id) ?hy (by assumption) ?_
      case hy => intro w' h; clear h; go_simp; try with_reducible rfl
      simp only [Act.put, sT]
      refine takP 5 99 ?_ rfl (by kernel_rfl) (fun _ _ _ => id) ?hy (by assumption) ?_
      case hy => intro w' h; clear h; go_simp; try with_reducible rfl
      simp only [Act.put, sT]
      refine takP 6 100 ?_ rfl (by kernel_rfl) (fun _ _ _ => id) ?hy (by assumption) ?_
      case hy => intro w' h; clear h; go_simp; try with_reducible rfl
      simp only [Act.put, sT]
      refine takP 7 101 ?_ rfl (by kernel_rfl) (fun _ _ _ => id) ?hy (by assumption) ?_
      case hy => intro w' h; have hx := c1 w' h; clear h; go_simp; try with_reducible rfl
      simp only [Act.put, sT]
      refine takP 8 102 ?_ rfl (by kernel_rfl) (fun _ _ _ => id) ?hy (by assumption) ?_
      case hy => intro w' h; clear h; go_simp; try with_reducible rfl
      simp only [Act.put, sT]
      refine takP 9 103 ?_ rfl (by kernel_rfl) (fun _ _ _ => id) ?hy (by assumption) ?_
      case hy => intro w' h; clear h; go_simp; try with_reducible rfl
      simp only [Act.put, sT]
      refine takP 10 104 ?_ rfl (by kernel_rfl) (fun _ _ _ => id) ?hy (by assumption) ?_
      case hy => intro w' h; clear h; go_simp; try with_reducible rfl
      simp only [Act.put, sT]
      clear wa wb wa1 wb1
      refine wpAnyH_ready (rs := [0, 15]) (by kernel_rfl) (by simp) ?_
      refine AllReadyH.cons rfl (fun K hK => ?_) (AllReadyH.cons rfl (fun K hK => ?_) AllReadyH.nil)
      all_goals
       rw [if_pos (by kernel_rfl)]
       try simp only [List.getElem_toArray]
       try simp only [List.getElem_cons_succ]
       try simp only [List.getElem_cons_zero]
      ·go_simp
       go_at_call 13
       refine (table_any w6.drew).mono ?_
       rintro e v1 ⟨rfl, hb1⟩
       have HB1 : Hid (Below w6.heap.size w6 v1) := Lib.hid ((Below.refl _ _).drew.trans hb1)
       clear hb1
       refine hK.out _ _ HB1.out (fun _ => ?_)
       clear hK K
       try simp only [Act.put, sT]
       refine wpAnyH_ready (rs := [11, 15]) (by kernel_rfl) (by simp) ?_
       refine AllReadyH.cons rfl (fun K hK => ?_) (AllReadyH.cons rfl (fun K hK => ?_) AllReadyH.nil)
       all_goals
        rw [if_pos (by kernel_rfl)]
        try simp only [List.getElem_toArray]
        try simp only [List.getElem_cons_succ]
        try simp only [List.getElem_cons_zero]
       ·
        go_simp
        go_at_call 12
        refine (HNP.out v1 HB1.out).mono ?_
        rintro e v2 ⟨Ak, nk, ck, An, nn, cn, Af, nf, cf, rfl, hO, hbN⟩
        have HB2 := Lib.hid (HB1.out.trans (hbN.mono HB1.out.size))
        have HON : Hid (p.Own w6.heap.size Ak nk ck An nn cn Af nf cf v2) := Lib.hid ⟨own_weak hO.k HB1.out.size, own_weak hO.n HB1.out.size, own_weak hO.f HB1.out.size, hO.bk, hO.bn, hO.bf⟩
        clear hO hbN
        refine hK.out _ _ HB2.out (fun _ => ?_)
        clear hK K
        try simp only [Act.put, sT]
        refine takP 12 93 ?_ rfl (by kernel_rfl) (fun _ _ _ => id) ?hy (by assumption) ?_
        case hy => intro w' h; clear h; go_simp; try with_reducible rfl
        simp only [Act.put, sT]
        refine takP 13 106 ?_ rfl (by kernel_rfl) (fun _ _ _ => id) ?hy (by assumption) ?_
        case hy => intro w' h; clear h; go_simp; try with_reducible rfl
        simp only [Act.put, sT]
        refine takP 14 107 ?_ rfl (by kernel_rfl) (fun _ _ _ => id) ?hy (by assumption) ?_
        case hy => intro w' h; clear h; go_simp; try with_reducible rfl
        simp only [Act.put, sT]
        refine wpAnyH_ready (rs := [15]) (by kernel_rfl) (by simp) ?_
        refine AllReadyH.cons rfl (fun K hK => ?_) AllReadyH.nil
        rw [if_pos (by kernel_rfl)]
        try simp only [List.getElem_toArray]
        try simp only [List.getElem_cons_succ]
        try simp only [List.getElem_cons_zero]
        go_simp
        have HB3 := Lib.hid (HB2.out.alloc HB2.out.size (.cells #[.int .u8 0, .int .u8 0, .int .u8 0, .int .u8 0, .int .u8 0, .int .u8 0, .int .u8 0, .int .u8 0, .slice none 0 0, .int .i64 0, .int .i64 0, .slice none 0 0, .slice none 0 0] 32))
        have HZ3 : Hid ((v2.alloc (.cells #[.int .u8 0, .int .u8 0, .int .u8 0, .int .u8 0, .int .u8 0, .int .u8 0, .int .u8 0, .int .u8 0, .slice none 0 0, .int .i64 0, .int .i64 0, .slice none 0 0, .slice none 0 0] 32)).heap[v2.heap.size]? = some (.cells #[.int .u8 0, .int .u8 0, .int .u8 0, .int .u8 0, .int .u8 0, .int .u8 0, .int .u8 0, .int .u8 0, .slice none 0 0, .int .i64 0, .int .i64 0, .slice none 0 0, .slice none 0 0] 32)) := heap_alloc_new _ _
        have HO3 := Lib.hid (HON.out.tk (T := fun _ => False) (TK.of_below (below_one v2 (.cells #[.int .u8 0, .int .u8 0, .int .u8 0, .int .u8 0, .int .u8 0, .int .u8 0, .int .u8 0, .int .u8 0, .slice none 0 0, .int .i64 0, .int .i64 0, .slice none 0 0, .slice none 0 0] 32))) (fun e => e) (fun e => e))
        generalize v2.alloc (.cells #[.int .u8 0, .int .u8 0, .int .u8 0, .int .u8 0, .int .u8 0, .int .u8 0, .int .u8 0, .int .u8 0, .slice none 0 0, .int .i64 0, .int .i64 0, .slice none 0 0, .slice none 0 0] 32) = v3 at *
        refine hK.out _ _ HB3.out (fun _ => ?_)
        clear hK K
        try simp only [Act.put, sT]
        refine wpAnyH_ready (rs := [16]) (by kernel_rfl) (by simp) ?_
        refine AllReadyH.cons rfl (fun K hK => ?_) AllReadyH.nil
        rw [if_pos (by kernel_rfl)]
        try simp only [List.getElem_toArray]
        try simp only [List.getElem_cons_succ]
        try simp only [List.getElem_cons_zero]
        refine wp_store_mid 32 _ _ (by rfl) (v2.heap.size) (0) #[.int .u8 p.tb.x0, .int .u8 p.tb.x1, .int .u8 p.tb.x2, .int .u8 p.tb.x3, .int .u8 p.tb.x4, .int .u8 p.tb.x5, .int .u8 p.tb.x6, .int .u8 p.tb.x7, .slice Ak nk ck, .int .i64 p.s0, .int .i64 p.s1, .slice An nn cn, .slice Af nf cf] (by rfl) (by rfl) (there_mid HZ3.out (by simp)) (by kernel_rfl) (by kernel_rfl) ?_
        obtain ⟨s1', s2'⟩ := set_all HZ3.out [.int .u8 p.tb.x0, .int .u8 p.tb.x1, .int .u8 p.tb.x2, .int .u8 p.tb.x3, .int .u8 p.tb.x4, .int .u8 p.tb.x5, .int .u8 p.tb.x6, .int .u8 p.tb.x7, .slice Ak nk ck, .int .i64 p.s0, .int .i64 p.s1, .slice An nn cn, .slice Af nf cf] rfl
        have HB9 := Lib.hid (HB3.out.grown s2' HB3.out.size (fun k hk => by cases hk; exact HB2.out.size))
        have HO9 : Hid (p.Own w6.heap.size Ak nk ck An nn cn Af nf cf _) := Lib.hid (HO3.out.tk (T := fun t => t = 32) (TK.of_grown s2' HZ3.out rfl) (by decide) (by decide))
        refine hK.out _ _ HB9.out (fun _ => ?_)
        clear hK K
        simp only [Act.put]
        refine takP 17 18 ?_ rfl (by kernel_rfl) (fun _ _ _ => id) ?hy (by assumption) ?_
        case hy => intro w' h; clear h; go_simp; try with_reducible rfl
        simp only [Act.put, sT]
        refine wpAnyH_done (by kernel_rfl) ?_ _
        go_wp2_with fail
        go_meet
        exact ⟨v2.heap.size, Ak, nk, ck, An, nn, cn, Af, nf, cf, rfl, rfl, s1', HO9.out, HB9.out, HB2.out.size⟩
       ·go_simp
        have HB2 := Lib.hid (HB1.out.alloc HB1.out.size (.cells #[.int .u8 0, .int .u8 0, .int .u8 0, .int .u8 0, .int .u8 0, .int .u8 0, .int .u8 0, .int .u8 0, .slice none 0 0, .int .i64 0, .int .i64 0, .slice none 0 0, .slice none 0 0] 32))
        have HZ2 : Hid ((v1.alloc (.cells #[.int .u8 0, .int .u8 0, .int .u8 0, .int .u8 0, .int .u8 0, .int .u8 0, .int .u8 0, .int .u8 0, .slice none 0 0, .int .i64 0, .int .i64 0, .slice none 0 0, .slice none 0 0] 32)).heap[v1.heap.size]? = some (.cells #[.int .u8 0, .int .u8 0, .int .u8 0, .int .u8 0, .int .u8 0, .int .u8 0, .int .u8 0, .int .u8 0, .slice none 0 0, .int .i64 0, .int .i64 0, .slice none 0 0, .slice none 0 0] 32)) := heap_alloc_new _ _
        have hz2 : v1.heap.size < (v1.alloc (.cells #[.int .u8 0, .int .u8 0, .int .u8 0, .int .u8 0, .int .u8 0, .int .u8 0, .int .u8 0, .int .u8 0, .slice none 0 0, .int .i64 0, .int .i64 0, .slice none 0 0, .slice none 0 0] 32)).heap.size := by simp
        generalize v1.alloc (.cells #[.int .u8 0, .int .u8 0, .int .u8 0, .int .u8 0, .int .u8 0, .int .u8 0, .int .u8 0, .int .u8 0, .slice none 0 0, .int .i64 0, .int .i64 0, .slice none 0 0, .slice none 0 0] 32) = v2 at *
        refine hK.out _ _ HB2.out (fun _ => ?_)
        clear hK K
        try simp only [Act.put, sT]
        refine wpAnyH_ready (rs := [11]) (by kernel_rfl) (by simp) ?_
        refine AllReadyH.cons rfl (fun K hK => ?_) AllReadyH.nil
        rw [if_pos (by kernel_rfl)]
        try simp only [List.getElem_toArray]
        try simp only [List.getElem_cons_succ]
        try simp only [List.getElem_cons_zero]
        go_simp
        go_at_call 12
        refine (HNP.out v2 HB2.out).mono ?_
        rintro e v3 ⟨Ak, nk, ck, An, nn, cn, Af, nf, cf, rfl, hO, hbN⟩
        have HB3 := Lib.hid (HB2.out.trans (hbN.mono HB2.out.size))
        have HON : Hid (p.Own w6.heap.size Ak nk ck An nn cn Af nf cf v3) := Lib.hid ⟨own_weak hO.k HB2.out.size, own_weak hO.n HB2.out.size, own_weak hO.f HB2.out.size, hO.bk, hO.bn, hO.bf⟩
        have HZ3 := Lib.hid (block_below HZ2.out hbN hz2)
        clear hO hbN
        refine hK.out _ _ HB3.out (fun _ => ?_)
        clear hK K
        try simp only [Act.put, sT]
        refine takP 12 93 ?_ rfl (by kernel_rfl) (fun _ _ _ => id) ?hy (by assumption) ?_
        case hy => intro w' h; clear h; go_simp; try with_reducible rfl
        simp only [Act.put, sT]
        refine takP 13 106 ?_ rfl (by kernel_rfl) (fun _ _ _ => id) ?hy (by assumption) ?_
        case hy => intro w' h; clear h; go_simp; try with_reducible rfl
        simp only [Act.put, sT]
        refine takP 14 107 ?_ rfl (by kernel_rfl) (fun _ _ _ => id) ?hy (by assumption) ?_
        case hy => intro w' h; clear h; go_simp; try with_reducible rfl
        simp only [Act.put, sT]
        refine wpAnyH_ready (rs := [16]) (by kernel_rfl) (by simp) ?_
        refine AllReadyH.cons rfl (fun K hK => ?_) AllReadyH.nil
        rw [if_pos (by kernel_rfl)]
        try simp only [List.getElem_toArray]
        try simp only [List.getElem_cons_succ]
        try simp only [List.getElem_cons_zero]
        refine wp_store_mid 32 _ _ (by rfl) (v1.heap.size) (0) #[.int .u8 p.tb.x0, .int .u8 p.tb.x1, .int .u8 p.tb.x2, .int .u8 p.tb.x3, .int .u8 p.tb.x4, .int .u8 p.tb.x5, .int .u8 p.tb.x6, .int .u8 p.tb.x7, .slice Ak nk ck, .int .i64 p.s0, .int .i64 p.s1, .slice An nn cn, .slice Af nf cf] (by rfl) (by rfl) (there_mid HZ3.out (by simp)) (by kernel_rfl) (by kernel_rfl) ?_
        obtain ⟨s1', s2'⟩ := set_all HZ3.out [.int .u8 p.tb.x0, .int .u8 p.tb.x1, .int .u8 p.tb.x2, .int .u8 p.tb.x3, .int .u8 p.tb.x4, .int .u8 p.tb.x5, .int .u8 p.tb.x6, .int .u8 p.tb.x7, .slice Ak nk ck, .int .i64 p.s0, .int .i64 p.s1, .slice An nn cn, .slice Af nf cf] rfl
        have HB9 := Lib.hid (HB3.out.grown s2' HB3.out.size (fun k hk => by cases hk; exact HB1.out.size))
        have HO9 : Hid (p.Own w6.heap.size Ak nk ck An nn cn Af nf cf _) := Lib.hid (HON.out.tk (T := fun t => t = 32) (TK.of_grown s2' HZ3.out rfl) (by decide) (by decide))
        refine hK.out _ _ HB9.out (fun _ => ?_)
        clear hK K
        simp only [Act.put]
        refine takP 17 18 ?_ rfl (by kernel_rfl) (fun _ _ _ => id) ?hy (by assumption) ?_
        case hy => intro w' h; clear h; go_simp; try with_reducible rfl
        simp only [Act.put, sT]
        refine wpAnyH_done (by kernel_rfl) ?_ _
        go_wp2_with fail
        go_meet
        exact ⟨v1.heap.size, Ak, nk, ck, An, nn, cn, Af, nf, cf, rfl, rfl, s1', HO9.out, HB9.out, HB1.out.size⟩
      ·go_simp
       have HB1 : Hid (Below w6.heap.size w6 ((w6.alloc (.cells #[.int .u8 0, .int .u8 0, .int .u8 0, .int .u8 0, .int .u8 0, .int .u8 0, .int .u8 0, .int .u8 0, .slice none 0 0, .int .i64 0, .int .i64 0, .slice none 0 0, .slice none 0 0] 32)).drew)) := Lib.hid (((Below.refl _ _).alloc (Nat.le_refl _) _).drew)
       have HZ1 : Hid (((w6.alloc (.cells #[.int .u8 0, .int .u8 0, .int .u8 0, .int .u8 0, .int .u8 0, .int .u8 0, .int .u8 0, .int .u8 0, .slice none 0 0, .int .i64 0, .int .i64 0, .slice none 0 0, .slice none 0 0] 32)).drew).heap[w6.heap.size]? = some (.cells #[.int .u8 0, .int .u8 0, .int .u8 0, .int .u8 0, .int .u8 0, .int .u8 0, .int .u8 0, .int .u8 0, .slice none 0 0, .int .i64 0, .int .i64 0, .slice none 0 0, .slice none 0 0] 32)) := Lib.hid (heap_alloc_new w6 _)
       have hz1 : w6.heap.size < ((w6.alloc (.cells #[.int .u8 0, .int .u8 0, .int .u8 0, .int .u8 0, .int .u8 0, .int .u8 0, .int .u8 0, .int .u8 0, .slice none 0 0, .int .i64 0, .int .i64 0, .slice none 0 0, .slice none 0 0] 32)).drew).heap.size := by simp
       generalize (w6.alloc (.cells #[.int .u8 0, .int .u8 0, .int .u8 0, .int .u8 0, .int .u8 0, .int .u8 0, .int .u8 0, .int .u8 0, .slice none 0 0, .int .i64 0, .int .i64 0, .slice none 0 0, .slice none 0 0] 32)).drew = v1 at *
       refine hK.out _ _ HB1.out (fun _ => ?_)
       clear hK K
       try simp only [Act.put, sT]
       refine wpAnyH_ready (rs := [0]) (by kernel_rfl) (by simp) ?_
       refine AllReadyH.cons rfl (fun K hK => ?_) AllReadyH.nil
       rw [if_pos (by kernel_rfl)]
       try simp only [List.getElem_toArray]
       try simp only [List.getElem_cons_succ]
       try simp only [List.getElem_cons_zero]
       go_simp
       go_at_call 13
       refine (table_any v1).mono ?_
       rintro e v2 ⟨rfl, hb2⟩
       have HB2 := Lib.hid (HB1.out.trans (hb2.mono HB1.out.size))
       have HZ2 := Lib.hid (block_below HZ1.out hb2 hz1)
       have hz2 := block_lt HZ2.out
       clear hb2
       refine hK.out _ _ HB2.out (fun _ => ?_)
       clear hK K
       try simp only [Act.put, sT]
       refine wpAnyH_ready (rs := [11]) (by kernel_rfl) (by simp) ?_
       refine AllReadyH.cons rfl (fun K hK => ?_) AllReadyH.nil
       rw [if_pos (by kernel_rfl)]
       try simp only [List.getElem_toArray]
       try simp only [List.getElem_cons_succ]
       try simp only [List.getElem_cons_zero]
       go_simp
       go_at_call 12
       refine (HNP.out v2 HB2.out).mono ?_
       rintro e v3 ⟨Ak, nk, ck, An, nn, cn, Af, nf, cf, rfl, hO, hbN⟩
       have HB3 := Lib.hid (HB2.out.trans (hbN.mono HB2.out.size))
       have HON : Hid (p.Own w6.heap.size Ak nk ck An nn cn Af nf cf v3) := Lib.hid ⟨own_weak hO.k HB2.out.size, own_weak hO.n HB2.out.size, own_weak hO.f HB2.out.size, hO.bk, hO.bn, hO.bf⟩
       have HZ3 := Lib.hid (block_below HZ2.out hbN hz2)
       clear hO hbN
       refine hK.out _ _ HB3.out (fun _ => ?_)
       clear hK K
       try simp only [Act.put, sT]
       refine takP 12 93 ?_ rfl (by kernel_rfl) (fun _ _ _ => id) ?hy (by assumption) ?_
       case hy => intro w' h; clear h; go_simp; try with_reducible rfl
       simp only [Act.put, sT]
       refine takP 13 106 ?_ rfl (by kernel_rfl) (fun _ _ _ => id) ?hy (by assumption) ?_
       case hy => intro w' h; clear h; go_simp; try with_reducible rfl
       simp only [Act.put, sT]
       refine takP 14 107 ?_ rfl (by kernel_rfl) (fun _ _ _ => id) ?hy (by assumption) ?_
       case hy => intro w' h; clear h; go_simp; try with_reducible rfl
       simp only [Act.put, sT]
       refine wpAnyH_ready (rs := [16]) (by kernel_rfl) (by simp) ?_
       refine AllReadyH.cons rfl (fun K hK => ?_) AllReadyH.nil
       rw [if_pos (by kernel_rfl)]
       try simp only [List.getElem_toArray]
       try simp only [List.getElem_cons_succ]
       try simp only [List.getElem_cons_zero]
       refine wp_store_mid 32 _ _ (by rfl) (w6.heap.size) (0) #[.int .u8 p.tb.x0, .int .u8 p.tb.x1, .int .u8 p.tb.x2, .int .u8 p.tb.x3, .int .u8 p.tb.x4, .int .u8 p.tb.x5, .int .u8 p.tb.x6, .int .u8 p.tb.x7, .slice Ak nk ck, .int .i64 p.s0, .int .i64 p.s1, .slice An nn cn, .slice Af nf cf] (by rfl) (by rfl) (there_mid HZ3.out (by simp)) (by kernel_rfl) (by kernel_rfl) ?_
       obtain ⟨s1', s2'⟩ := set_all HZ3.out [.int .u8 p.tb.x0, .int .u8 p.tb.x1, .int .u8 p.tb.x2, .int .u8 p.tb.x3, .int .u8 p.tb.x4, .int .u8 p.tb.x5, .int .u8 p.tb.x6, .int .u8 p.tb.x7, .slice Ak nk ck, .int .i64 p.s0, .int .i64 p.s1, .slice An nn cn, .slice Af nf cf] rfl
       have HB9 := Lib.hid (HB3.out.grown s2' HB3.out.size (fun k hk => by cases hk; exact Nat.le_refl _))
       have HO9 : Hid (p.Own w6.heap.size Ak nk ck An nn cn Af nf cf _) := Lib.hid (HON.out.tk (T := fun t => t = 32) (TK.of_grown s2' HZ3.out rfl) (by decide) (by decide))
       refine hK.out _ _ HB9.out (fun _ => ?_)
       clear hK K
       simp only [Act.put]
       refine takP 17 18 ?_ rfl (by kernel_rfl) (fun _ _ _ => id) ?hy (by assumption) ?_
       case hy => intro w' h; clear h; go_simp; try with_reducible rfl
       simp only [Act.put, sT]
       refine wpAnyH_done (by kernel_rfl) ?_ _
       go_wp2_with fail
       go_meet
       exact ⟨w6.heap.size, Ak, nk, ck, An, nn, cn, Af, nf, cf, rfl, rfl, s1', HO9.out, HB9.out, Nat.le_refl _⟩
      -->
     case rest =>
      obtain ⟨pb, Ak, nk, ck, An, nn, cn, Af, nf, cf, rfl, rfl, hpb, hO, hBc, hge⟩ := hcut
      obtain rfl : nk = n + 1 := by
       have h1 := (Rd.of_own hO.k).dlenD
       rw [← HP.out] at h1
       exact h1.symm.trans (bgKs_len n)
      obtain rfl : n = nn := by
       have h1 := (Rd.of_own hO.n).ilen
       rw [← HP.out] at h1
       rw [← h1]
       show n = ((List.range ((bgKs n).length - 1)).map _).length
       rw [List.length_map, List.length_range, bgKs_len]; rfl
      obtain rfl : n = nf := by
       have h1 := (Rd.of_own hO.f).ilen
       rw [← HP.out] at h1
       rw [← h1]
       show n = ((List.range ((bgKs n).length - 1)).map _).length
       rw [List.length_map, List.length_range, bgKs_len]; rfl
      have HPb := Lib.hid hpb; have HOc := Lib.hid hO; have HBc := Lib.hid hBc
      have hbl := block_lt hpb
      clear hpb hO hBc
      have hpc : p.check 10 = 0 := by rw [← HP.out]; exact bgPl_check hn1 hn4 ha hb
      have hpt : p.tb.ok := by rw [← HP.out]; exact byD_ok (by decide)
      have hpk : ∀ d ∈ p.ks, d.ok := by rw [← HP.out]; exact bgKs_ok (by omega)
      have hPr := ((Rd.of_own HO.out).below HBc.out (Nat.le_refl _)).more HBc.out.size
      have hfit := bgPs_fit ha hb HV.out n
      have hWy := newway_any p Ak (n + 1) ck An n cn Af n cf (w.heap.size + 1 + 1) A' n c' ((bgPs a b hv n).map puN) 10 wc HOc.out.at_ hpc hpt hpk hPr rfl (by omega)
       (fun x hx => by
        obtain ⟨q, hq, rfl⟩ := List.mem_map.1 hx
        have := (hfit q hq).1
        exact ⟨by show Rd _ _ _ none 0 (flatH q.held); rw [this]; exact Rd.empty, by show (0 : Nat) ≤ 0; omega, by show (0 : Nat) ≤ _; omega⟩)
       (fun x hx => by obtain ⟨q, hq, rfl⟩ := List.mem_map.1 hx; exact (hfit q hq).2)
       (fun j k hj hk => by
        rw [bgA_at (by omega), bgA_at hk]
        exact bgP_apart hj)
      have HWy := Lib.hid hWy
      clear hWy hPr hfit
      go_upto_region 28 with fail
      refine wp_region_list ?_
      refine wpList_load_mid (by rfl) 32 _ (by rfl) pb 0 (by rfl) [.int .u8 p.tb.x0, .int .u8 p.tb.x1, .int .u8 p.tb.x2, .int .u8 p.tb.x3, .int .u8 p.tb.x4, .int .u8 p.tb.x5, .int .u8 p.tb.x6, .int .u8 p.tb.x7, .slice Ak (n + 1) ck, .int .i64 p.s0, .int .i64 p.s1, .slice An n cn, .slice Af n cf] _ (range_all HPb.out) Tryz.underlying32 rfl (by kernel_rfl) ?_
      simp only [Act.put, sT]
      go_wp2_with fail
      refine HWy.out.mono ?_
      rintro e w7 ⟨wb, aW, rfl, hW, hb7⟩
      have HPb7 := Lib.hid (block_below HPb.out hb7 hbl)
      have HBa : Hid (Below w.heap.size w w7) := Lib.hid ((Hb6.out.trans (HBc.out.mono Hb6.out.size)).trans (hb7.mono (by have := Hb6.out.size; have := HBc.out.size; omega)))
      have HW7 := Lib.hid hW; have HB7 := Lib.hid hb7
      clear hW hb7 hbl
      go_upto_region 31 with fail
      refine wp_region_list ?_
      refine wpList_value (.pointer (some ⟨wb, 0, none⟩)) (by kernel_rfl) (by kernel_rfl) ?_
      simp only [Act.put, sT]
      refine wpList_load_mid (by rfl) 32 _ (by rfl) pb 0 (by rfl) [.int .u8 p.tb.x0, .int .u8 p.tb.x1, .int .u8 p.tb.x2, .int .u8 p.tb.x3, .int .u8 p.tb.x4, .int .u8 p.tb.x5, .int .u8 p.tb.x6, .int .u8 p.tb.x7, .slice Ak (n + 1) ck, .int .i64 p.s0, .int .i64 p.s1, .slice An n cn, .slice Af n cf] _ (range_all HPb7.out) Tryz.underlying32 rfl (by kernel_rfl) ?_
      simp only [Act.put, sT]
      go_wp2
      go_ret
      have hy : bgY n a b hv = Wy.begin p (((bgPs a b hv n).map puN).map (·.p)) := by
       unfold bgY; rw [HP.out, List.map_map]
       congr 1
       exact (List.map_id _).symm
      have hs3 := HB'.out.size; have hs4 := HBc.out.size; have hs5 := Hb6.out.size; have hs6 := HB7.out.size; have hs7 := HB.out.size
      have hbo := below_one w7 (.cells #[.pointer (some ⟨wb, 0, none⟩), .int .u8 p.tb.x0, .int .u8 p.tb.x1, .int .u8 p.tb.x2, .int .u8 p.tb.x3, .int .u8 p.tb.x4, .int .u8 p.tb.x5, .int .u8 p.tb.x6, .int .u8 p.tb.x7, .slice Ak (n + 1) ck, .int .i64 p.s0, .int .i64 p.s1, .slice An n cn, .slice Af n cf, .pointer (some ⟨w.heap.size + 1 + 1, 0, none⟩), .int .i64 10, .slice A' n c'] 54)
      refine ⟨w7.heap.size, wc.heap.size, w.heap.size + 3, wb, w.heap.size + 1 + 1, w.heap.size + 1, aW, Ak, ck, An, cn, Af, cf, A', c', rfl, ⟨?_, ?_, ?_, bgY_ok hn1 hn4 ha hb, ?_, ?_, by omega⟩, ⟨?_, ?_, ?_⟩, ?_, by omega, by omega, by omega⟩
      ·rw [hy]; exact heap_alloc_new _ _
      ·rw [hy]
       have h9 := HOc.out.tk (T := fun _ => False) (TK.of_below (HB7.out.trans (hbo.mono (by omega)))) (fun e => e) (fun e => e)
       exact ⟨own_weak h9.k (Nat.zero_le _), own_weak h9.n (Nat.zero_le _), own_weak h9.f (Nat.zero_le _), h9.bk, h9.bn, h9.bf⟩
      ·rw [hy]; exact HW7.out.below hbo
      ·exact fun q hq => (bgPs_fit ha hb HV.out n q hq).2
      ·exact (HBk6.out.below (HBc.out.trans (HB7.out.mono (by omega)))).below hbo
      ·exact own_weak (own_below (own_below HO.out (HBc.out.trans (HB7.out.mono (by omega)))) hbo) (Nat.zero_le _)
      ·intro g hg
       have := (HO.out.lt g hg).2
       omega
      ·intro x hx
       obtain ⟨q, _, rfl⟩ := List.mem_map.1 hx
       exact ⟨rfl, rfl⟩
      ·exact HBa.out.trans (hbo.mono (by omega))
end
section
variable {w w' : World} {B Bb wob wb bk mb : Nat} {y : Wy} {a : WyA} {L : List En} {Ak : Option Addr} {nk ck : Nat} {An : Option Addr} {nn cn : Nat} {Af : Option Addr} {nf cf : Nat} {vp : Value}
theorem LwAt.wchg (h : LwAt w B Bb wob wb bk mb y a L Ak nk ck An nn cn Af nf cf vp) {y' : Wy} {a' : WyA} (hw : WyAt w' B wb bk y' a') (hc : WChg a.F w w') (hpl : y'.pl = y.pl) (hok : y'.Ok) (hf : ∀ p ∈ y'.pu, p.check = 0) : LwAt w' B Bb wob wb bk mb y' a' L Ak nk ck An nn cn Af nf cf vp :=
 h.chg (.of_wchg hc) hw hpl hok hf (h.book.wchg h.way h.hB hc)
def LGives (w : World) (B Bb wob wb bk mb : Nat) (y' : Wy) (a : WyA) (L : List En) (Ak : Option Addr) (nk ck : Nat) (An : Option Addr) (nn cn : Nat) (Af : Option Addr) (nf cf : Nat) (vp : Value) (er : Int) (e : Ending) (w' : World) : Prop :=
 e = .returned (.int .i64 er) ∧ ∃ a', LwAt w' B Bb wob wb bk mb y' a' L Ak nk ck An nn cn Af nf cf vp ∧ a.sameF a' ∧ LChg a bk mb w w'
theorem llock_any (h : LwAt w B Bb wob wb bk mb y a L Ak nk ck An nn cn Af nf cf vp) (hop now : Int) :
  Calls Tryz.prog 22 #[.pointer (some ⟨wb, 0, none⟩), .int .i64 hop, .int .i64 now] w (LGives w B Bb wob wb bk mb (y.lock hop now).2 a L Ak nk ck An nn cn Af nf cf vp (y.lockI hop now).1) := by
 refine (lock_any h.way h.ok hop now).mono ?_
 rintro e w' ⟨rfl, a', h1, h2, h3⟩
 exact ⟨rfl, a', h.wchg h1 h3 (lock_pl _ _ _) (h.ok.lock _ _) (fit_lock h.fit _ _), h2, .of_wchg h3⟩
theorem lopen_any (h : LwAt w B Bb wob wb bk mb y a L Ak nk ck An nn cn Af nf cf vp) (hlen : L.length < 60000) (hop wh now : Int) (o : Ou) (Ap : Option Addr) (np cp : Nat) (As : Option Addr) (ns cs : Nat) {C : Nat} (ho : o.Own C Ap np cp As ns cs w) :
  Calls Tryz.prog 26 #[.pointer (some ⟨wb, 0, none⟩), .int .i64 hop, .int .i64 wh, .int .i64 now, .agg #[.slice Ap np cp, .slice As ns cs]] w (LGives w B Bb wob wb bk mb (y.open_ L hop wh now o).2 a L Ak nk ck An nn cn Af nf cf vp (y.openI L hop wh now o).1) := by
 refine (wopen_any h.way h.ok h.book hlen hop wh now o Ap np cp As ns cs ho).mono ?_
 rintro e w' ⟨rfl, a', h1, h2, h3⟩
 exact ⟨rfl, a', h.wchg h1 h3 (open_pl _ _ _ _ _ _) (h.ok.open_ _ _ _ _ _) (fit_open h.fit _ _ _ _ _), h2, .of_wchg h3⟩
theorem LChg.own {b e n sz : Nat} {v : Value} {xs : List Value} (hc : LChg a bk mb w w') (h : w.ownsRow b e sz v n xs) (he : e ≠ 243) (hb : ∀ cs fz, w.heap[bk]? ≠ some (.cells cs e fz)) (hF : ∀ g, v.ownBlock = some g → ¬ a.F g) : w'.ownsRow b e sz v n xs :=
 own_keepV h fun g hg => by
  obtain ⟨_, cs, e2⟩ := own_block h hg
  exact hc.typed g _ _ _ e2 (hF g hg) he (fun x => hb _ _ (x ▸ e2))
theorem LwAt.own (hl : LwAt w B Bb wob wb bk mb y a L Ak nk ck An nn cn Af nf cf vp) (hc : LChg a bk mb w w') {b e n sz : Nat} {v : Value} {xs : List Value} (h : w.ownsRow b e sz v n xs) (h1 : e ≠ 243) (h2 : e ≠ 181) (h3 : e ≠ 85) (h4 : e ≠ 4) : w'.ownsRow b e sz v n xs :=
 own_keepV h fun g hg => by
  obtain ⟨_, cs, e2⟩ := own_block h hg
  exact hc.typed g _ _ _ e2 (hl.way.notF e2 h3 h4) h1 (hl.ne_bk e2 h2)
theorem LwAt.keep (hl : LwAt w B Bb wob wb bk mb y a L Ak nk ck An nn cn Af nf cf vp) (hc : LChg a bk mb w w') {g : Nat} {cs : Array Value} {t : TypeId} {fz : Nat × Nat} (h : w.heap[g]? = some (.cells cs t fz)) (h1 : t ≠ 243) (h2 : t ≠ 181) (h3 : t ≠ 85) (h4 : t ≠ 4) : w'.heap[g]? = some (.cells cs t fz) :=
 (hc.typed g _ _ _ h (hl.way.notF h h3 h4) h1 (hl.ne_bk h h2)).trans h
theorem LwAt.out (hl : LwAt w B Bb wob wb bk mb y a L Ak nk ck An nn cn Af nf cf vp) (hc : LChg a bk mb w w') {o : Ou} {C : Nat} {Ap : Option Addr} {np cp : Nat} {As : Option Addr} {ns cs : Nat} (h : o.Own C Ap np cp As ns cs w) : o.Own C Ap np cp As ns cs w' := by
 obtain ⟨vs, k1, k2, k3⟩ := h.s
 refine ⟨hl.own hc h.p (by decide) (by decide) (by decide) (by decide), ⟨vs, hl.own hc k1 (by decide) (by decide) (by decide) (by decide), k2, fun k hk => ?_⟩, h.bp, h.bs, h.so⟩
 obtain ⟨A, m, c, h4, h5⟩ := k3 k hk
 exact ⟨A, m, c, h4, hl.own hc h5 (by decide) (by decide) (by decide) (by decide)⟩
end
end Go.Proofs.YthhiookcknnmdaaGreat
namespace Go.Proofs.YthhiookcknnmdaaGreat
def knL (n : Nat) : Wy := match n with | 0 => bgY 2 9 4 [] | n + 1 => ((knL n).lock n 5).2
def knA : Nat → Wy × List En
 | 0 => (knL 2, [])
 | n + 1 => (lawAgree (knA n).1 (knA n).2 n).2
def knO : Ou × List En := outD (knA 3).2 3 4 11
def knW : Nat → Wy
 | 0 => (knA 3).1
 | n + 1 => (((knW n).open_ knO.2 n 0 50 knO.1).2.open_ knO.2 n 1 50 knO.1).2
theorem knP : (((knL 0).lockI ((0 : Nat) : Int) 5).1 = 0 ∧ ((knL 1).lockI ((1 : Nat) : Int) 5).1 = 0) ∧ ((lawAgree (knA 0).1 (knA 0).2 0).1 = 0 ∧ (lawAgree (knA 1).1 (knA 1).2 1).1 = 0 ∧ (lawAgree (knA 2).1 (knA 2).2 2).1 = 0) ∧
  (((knW 0).openI knO.2 ((0 : Nat) : Int) 0 50 knO.1).1 = 0 ∧ ((knW 1).openI knO.2 ((1 : Nat) : Int) 0 50 knO.1).1 = 0) ∧
  ((((knW 0).open_ knO.2 ((0 : Nat) : Int) 0 50 knO.1).2.openI knO.2 ((0 : Nat) : Int) 1 50 knO.1).1 = 0 ∧ (((knW 1).open_ knO.2 ((1 : Nat) : Int) 0 50 knO.1).2.openI knO.2 ((1 : Nat) : Int) 1 50 knO.1).1 = 0) ∧
  (knW 2).worth 0 = 4 ∧ (knW 2).worth 1 = 15 ∧ (knW 2).worth 2 = 11 := by decide +kernel
structure KnF : Prop where
 lock : ∀ k : Nat, k < 2 → ((knL k).lockI k 5).1 = 0
 agree : ∀ k, k < 3 → (lawAgree (knA k).1 (knA k).2 k).1 = 0
 open0 : ∀ k : Nat, k < 2 → ((knW k).openI knO.2 k 0 50 knO.1).1 = 0
 open1 : ∀ k : Nat, k < 2 → (((knW k).open_ knO.2 k 0 50 knO.1).2.openI knO.2 k 1 50 knO.1).1 = 0
 w0 : (knW 2).worth 0 = 4
 w1 : (knW 2).worth 1 = 15
 w2 : (knW 2).worth 2 = 11
theorem knF : KnF := by
 obtain ⟨⟨a0, a1⟩, ⟨b0, b1, b2⟩, ⟨c0, c1⟩, ⟨d0, d1⟩, e0, e1, e2⟩ := knP
 refine ⟨fun k hk => ?_, fun k hk => ?_, fun k hk => ?_, fun k hk => ?_, e0, e1, e2⟩
 ·rcases (show k = 0 ∨ k = 1 by omega) with rfl | rfl
  ·exact a0
  ·exact a1
 ·rcases (show k = 0 ∨ k = 1 ∨ k = 2 by omega) with rfl | rfl | rfl
  ·exact b0
  ·exact b1
  ·exact b2
 ·rcases (show k = 0 ∨ k = 1 by omega) with rfl | rfl
  ·exact c0
  ·exact c1
 ·rcases (show k = 0 ∨ k = 1 by omega) with rfl | rfl
  ·exact d0
  ·exact d1
end Go.Proofs.YthhiookcknnmdaaGreat
namespace Go.Proofs.YthhiookcknnmdaaGreat
open Go.RowKit Go.Lib
theorem knA_len : ∀ k, (knA k).2.length ≤ k
 | 0 => Nat.le_refl _
 | k + 1 => by
  have h := knA_len k
  have := signE_len (knA k).2 ⟨keyD k, (knA k).1.pl.digest⟩
  show (signE _ _).1.length ≤ _
  omega
theorem outD_len (L : List En) (n : Nat) (p q : Int) : (outD L n p q).2.length ≤ L.length + 2 := (outS_len L (payD tabD [p, q]) n 2).1
theorem knO_len : knO.2.length ≤ 5 := Nat.le_trans (outD_len _ _ _ _) (Nat.add_le_add_right (knA_len 3) 2)
section
set_option maxRecDepth 100000 in
set_option maxHeartbeats 4000000 in
theorem known_any (w : World) : Calls Tryz.prog 14 #[] w fun e w' => e = .returned (.bool true) ∧ Below w.heap.size w w' := by
 have hBg : Calls Tryz.prog 19 #[.int .u8 1, .agg #[.int .u8 9, .int .u8 4], .slice none 0 0] w fun e w' => ∃ wob B Bb wb bk mb aW Ak ck An cn Af cf Au cu, e = .returned (.pointer (some ⟨wob, 0, none⟩)) ∧
   LwAt w' B Bb wob wb bk mb (knL 0) aW [] Ak 3 ck An 2 cn Af 2 cf (.slice Au 2 cu) ∧ BgAt w' B Au 2 cu ((bgPs 9 4 [] 2).map puN) ∧ Below w.heap.size w w' ∧ w.heap.size ≤ bk ∧ w.heap.size ≤ mb ∧ w.heap.size ≤ B :=
  lbegin_any 1 9 4 [] none 0 0 w (by decide) (by decide) (by decide) Rd.empty (by decide) (by simp)
 have hF := knF
 have HF := Lib.hid hF; have HBg := Lib.hid hBg
 clear hF hBg
 go_enter Tryz.func14, Tryz.ntmps14
 go_upto_region 2 with (go_at_call 19; refine HBg.out.mono ?_; rintro e w1 ⟨wob, B, Bb, wb, bk, mb, aW, Ak, ck, An, cn, Af, cf, Au, cu, rfl, hL, -, hb1, hbk, hmb, hBB⟩)
 have H1 := Lib.hid hL; have HB1 := Lib.hid hb1
 clear hL hb1 HBg
 go_upto_region 5 with fail
 go_loopw [10] (fun i wr => ∃ (k : Nat) (a' : WyA), k ≤ 2 ∧ i = .int .i64 k ∧ Hid (LwAt wr B Bb wob wb bk mb (knL k) a' [] Ak 3 ck An 2 cn Af 2 cf (.slice Au 2 cu)) ∧ Hid (aW.sameF a') ∧ Hid (LChg aW bk mb w1 wr)) (fun i _ => 2 - (RowKit.intOf i).toNat)
 case atStart => exact ⟨0, aW, by omega, rfl, H1, Lib.hid (.refl _), Lib.hid (.refl _ _ _ _)⟩
 case round =>
  obtain ⟨k, a', hk, rfl, HL, HS, HC⟩ := hrel
  by_cases hlt : k < 2
  ·have hd1 : decide ((k : Int) < 2) = true := decide_eq_true (by omega)
   have hki : (k : Int) < 2 := by omega
   have hc0 := block_cell HL.out.box 0
   simp at hc0
   have hc := llock_any HL.out (k : Int) 5
   rw [HF.out.lock k hlt] at hc
   have e1 : ((knL k).lock k 5).2 = knL (k + 1) := rfl
   rw [e1] at hc
   have HCl := Lib.hid hc
   clear hc e1
   go_upto_region 9 with (go_at_call 22; refine HCl.out.mono ?_; rintro e w2 ⟨rfl, a2, h2, h3, h4⟩; have HL2 := Lib.hid h2; have HS2 := Lib.hid (HS.out.trans h3); have HC2 := Lib.hid (HC.out.trans (h4.same HS.out)); clear h2 h3 h4)
   go_wp2
   go_roundw
   case rel => exact ⟨k + 1, a2, hlt, by go_num, HL2, HS2, HC2⟩
   case measure => simp [RowKit.intOf]; omega
  ·obtain rfl : k = 2 := by omega
   have hd1 : decide (((2 : Nat) : Int) < 2) = false := by decide
   have HL0 : Hid (LwAt wr B Bb wob wb bk mb (knA 0).1 a' (knA 0).2 Ak 3 ck An 2 cn Af 2 cf (.slice Au 2 cu)) := HL
   obtain ⟨wo, rfl⟩ : ∃ wo : World, wo = wr := ⟨_, rfl⟩
   go_upto_region 11 with fail
   go_loopw [21] (fun i wr => ∃ (k : Nat) (a' : WyA), k ≤ 3 ∧ i = .int .i64 k ∧ Hid (LwAt wr B Bb wob wb bk mb (knA k).1 a' (knA k).2 Ak 3 ck An 2 cn Af 2 cf (.slice Au 2 cu)) ∧ Hid (aW.sameF a') ∧ Hid (LChg aW bk mb w1 wr)) (fun i _ => 3 - (RowKit.intOf i).toNat)
   case atStart => exact ⟨0, a', by omega, rfl, HL0, HS, HC⟩
   case round =>
    clear HL0 HL HS HC
    obtain ⟨k, a', hk, rfl, HL, HS, HC⟩ := hrel
    by_cases hlt : k < 3
    ·have hd1 : decide ((k : Int) < 3) = true := decide_eq_true (by omega)
     have hki : (k : Int) < 3 := by omega
     have hc := lagree_any HL.out k (by omega) (by have := knA_len k; omega)
     rw [HF.out.agree k hlt] at hc
     have e1 : (lawAgree (knA k).1 (knA k).2 k).2.1 = (knA (k + 1)).1 := rfl
     have e2 : (lawAgree (knA k).1 (knA k).2 k).2.2 = (knA (k + 1)).2 := rfl
     rw [e1, e2] at hc
     have HCl := Lib.hid hc
     clear hc e1 e2
     go_upto_region 15 with (go_at_call 24; refine HCl.out.mono ?_; rintro e w2 ⟨rfl, a2, h2, h3, h4⟩; have HL2 := Lib.hid h2; have HS2 := Lib.hid (HS.out.trans h3); have HC2 := Lib.hid (HC.out.trans (h4.same HS.out)); clear h2 h3 h4)
     go_wp2
     go_roundw
     case rel => exact ⟨_, _, .int .i64 ((k + 1 : Nat) : Int), _, _, _, _, _, _, _, ⟨k + 1, a2, hlt, rfl, HL2, HS2, HC2⟩, rfl⟩
     case measure => simp [RowKit.intOf]; omega
    ·obtain rfl : k = 3 := by omega
     have hd1 : decide (((3 : Nat) : Int) < 3) = false := by decide
     obtain ⟨wp, hwp⟩ : ∃ wp : World, wp = wr := ⟨_, rfl⟩
     subst hwp
     have hout := outcome_any HL.out 4 11 (by unfold okPay; omega) (by unfold okPay; omega) (by have := knA_len 3; omega) (by omega) (by omega)
     have e1 : outD (knA 3).2 3 4 11 = knO := rfl
     rw [e1] at hout
     have HOu := Lib.hid hout
     clear hout e1
     go_upto_region 17 with (go_at_call 25; refine HOu.out.mono ?_; rintro e w2 ⟨Ap, cp, As, cs, rfl, ho, h2, h4, -⟩; have HL2 := Lib.hid h2; have HC2 := Lib.hid (HC.out.trans (h4.same HS.out)); have HO2 := Lib.hid ho; clear h2 h4 ho)
     have HBx3 : Hid ((w2.alloc (.cells #[.slice Ap 2 cp, .slice As 2 cs] 59)).heap[w2.heap.size]? = some (.cells #[.slice Ap 2 cp, .slice As 2 cs] 59 (0, 0))) := heap_alloc_new _ _
     have hb3 := below_one w2 (.cells #[.slice Ap 2 cp, .slice As 2 cs] 59)
     have HL3 := Lib.hid (HL2.out.below hb3); have HC3 := Lib.hid (HC2.out.trans (.of_below hb3))
     have HO3 := Lib.hid (HL2.out.out (.of_below (a := a') (bk := bk) (mb := mb) hb3) HO2.out)
     generalize w2.alloc (.cells #[.slice Ap 2 cp, .slice As 2 cs] 59) = w3 at *
     have HLw : Hid (LwAt w3 B Bb wob wb bk mb (knW 0) a' knO.2 Ak 3 ck An 2 cn Af 2 cf (.slice Au 2 cu)) := HL3
     clear hb3 HL3 HL2 HC2 HO2 HL HC HOu
     have hkl := knO_len
     go_upto_region 18 with fail
     go_loopw [31] (fun i wr => ∃ (k : Nat) (a' : WyA), k ≤ 2 ∧ i = .int .i64 k ∧ Hid (LwAt wr B Bb wob wb bk mb (knW k) a' knO.2 Ak 3 ck An 2 cn Af 2 cf (.slice Au 2 cu)) ∧ Hid (aW.sameF a') ∧ Hid (LChg aW bk mb w1 wr) ∧ Hid (wr.heap[w2.heap.size]? = some (.cells #[.slice Ap 2 cp, .slice As 2 cs] 59 (0, 0))) ∧ Hid (knO.1.Own wp.heap.size Ap 2 cp As 2 cs wr)) (fun i _ => 2 - (RowKit.intOf i).toNat)
     case atStart => exact ⟨0, a', by omega, rfl, HLw, HS, HC3, HBx3, HO3⟩
     case round =>
      clear HLw HS HC3 HBx3 HO3
      obtain ⟨k, a', hk, rfl, HL, HS, HC, HBx, HO⟩ := hrel
      by_cases hlt : k < 2
      ·have hd1 : decide ((k : Int) < 2) = true := decide_eq_true (by omega)
       have hki : (k : Int) < 2 := by omega
       go_upto_region 20 with fail
       have HSt : Hid (wr.drew.cell? ⟨wob, 0, none⟩ = some (.pointer (some ⟨wb, 0, none⟩)) ∧ wr.drew.heap[w2.heap.size]? = some (.cells #[.slice Ap 2 cp, .slice As 2 cs] 59 (0, 0))) := Lib.hid ⟨by have := block_cell HL.out.box 0; simpa using this, HBx.out⟩
       refine wp_region_held_drew (S := fun w' => w'.cell? ⟨wob, 0, none⟩ = some (.pointer (some ⟨wb, 0, none⟩)) ∧ w'.heap[w2.heap.size]? = some (.cells #[.slice Ap 2 cp, .slice As 2 cs] 59 (0, 0))) (by kernel_rfl) HSt.out (fun hHeld => ?_)
       have q1 : ∀ w' : World, (w'.cell? ⟨wob, 0, none⟩ = some (.pointer (some ⟨wb, 0, none⟩)) ∧ w'.heap[w2.heap.size]? = some (.cells #[.slice Ap 2 cp, .slice As 2 cs] 59 (0, 0))) → w'.cell? ⟨wob, 0, none⟩ = some (.pointer (some ⟨wb, 0, none⟩)) := fun _ h => h.1
       have hb1 := (Below.refl wr.heap.size wr).drew
       have hc1 := lopen_any (HL.out.below hb1) (by omega) (k : Int) 0 50 knO.1 Ap 2 cp As 2 cs (HL.out.out (.of_below (a := a') (bk := bk) (mb := mb) hb1) HO.out)
       rw [HF.out.open0 k hlt] at hc1
       have HC1 := Lib.hid hc1
       clear hc1 hb1
       refine takP 0 34 ?_ rfl (by kernel_rfl) (fun _ _ _ => id) ?hy (by assumption) ?_
       case hy => intro w' h; clear h; go_simp; try with_reducible rfl
       simp only [Act.put, sT]
       refine takP 1 35 ?_ rfl (by kernel_rfl) (fun _ _ _ => id) ?hy (by assumption) ?_
       case hy => intro w' h; clear h; go_simp; try with_reducible rfl
       simp only [Act.put, sT]
       refine takP 2 36 ?_ rfl (by kernel_rfl) (fun _ _ _ => id) ?hy (by assumption) ?_
       case hy => intro w' h; clear h; go_simp; try with_reducible rfl
       simp only [Act.put, sT]
       refine takP 3 37 ?_ rfl (by kernel_rfl) (fun _ _ _ => id) ?hy (by assumption) ?_
       case hy => intro w' h; have hx := q1 w' h; clear h; go_simp; try with_reducible rfl
       simp only [Act.put, sT]
       refine takP 4 38 ?_ rfl (by kernel_rfl) (fun _ _ _ => id) ?hy (by assumption) ?_
       case hy => intro w' h; clear h; go_simp; try with_reducible rfl
       simp only [Act.put, sT]
       refine takeK 5 (some 39) (v := .agg ([.slice Ap 2 cp, .slice As 2 cs] : List Value).toArray) rfl (by kernel_rfl) (by kernel_rfl) (fun _ _ _ => id) (yieldsIf_load_mid (by kernel_rfl) 59 _ (by rfl) (w2.heap.size) (0) (by rfl) [.slice Ap 2 cp, .slice As 2 cs] _ (fun w' hw' => range_all hw'.2) Tryz.underlying59 rfl (by kernel_rfl)) (by assumption) ?_
       simp only [Act.put, sT]
       refine wpAnyH_ready (rs := [6]) (by kernel_rfl) (by simp) ?_
       refine AllReadyH.cons rfl (fun K hK => ?_) AllReadyH.nil
       rw [if_pos (by kernel_rfl)]
       try simp only [List.getElem_toArray]
       try simp only [List.getElem_cons_succ]
       try simp only [List.getElem_cons_zero]
       go_simp
       go_at_call 26
       refine HC1.out.mono ?_
       rintro e w4 ⟨rfl, a4, h2, h3, h4⟩
       have h4' : LChg a' bk mb wr w4 := ⟨h4.os, h4.tape, h4.output, h4.size, h4.low, h4.typed, h4.maps⟩
       have HL4 := Lib.hid h2; have HS4 := Lib.hid (HS.out.trans h3); have HC4 := Lib.hid (HC.out.trans (h4'.same HS.out)); have HO4 := Lib.hid (HL.out.out h4' HO.out); have HBx4 := Lib.hid (HL.out.keep h4' HBx.out (by decide) (by decide) (by decide) (by decide))
       clear h2 h3 h4 h4'
       have HSt4 : Hid (w4.cell? ⟨wob, 0, none⟩ = some (.pointer (some ⟨wb, 0, none⟩)) ∧ w4.heap[w2.heap.size]? = some (.cells #[.slice Ap 2 cp, .slice As 2 cs] 59 (0, 0))) := Lib.hid ⟨by have := block_cell HL4.out.box 0; simpa using this, HBx4.out⟩
       have hc5 := lopen_any HL4.out (by omega) (k : Int) 1 50 knO.1 Ap 2 cp As 2 cs HO4.out
       rw [HF.out.open1 k hlt] at hc5
       have e1 : (((knW k).open_ knO.2 k 0 50 knO.1).2.open_ knO.2 k 1 50 knO.1).2 = knW (k + 1) := rfl
       rw [e1] at hc5
       have HC5 := Lib.hid hc5
       clear hc5 e1
       refine hK.out _ _ HSt4.out (fun _ => ?_)
       clear hK K
       try simp only [Act.put, sT]
       refine takP 7 41 ?_ rfl (by kernel_rfl) (fun _ _ _ => id) ?hy (by assumption) ?_
       case hy => intro w' h; clear h; go_simp; try with_reducible rfl
       simp only [Act.put, sT]
       refine takP 8 42 ?_ rfl (by kernel_rfl) (fun _ _ _ => id) ?hy (by assumption) ?_
       case hy => intro w' h; clear h; go_simp; try with_reducible rfl
       simp only [Act.put, sT]
       refine takP 9 43 ?_ rfl (by kernel_rfl) (fun _ _ _ => id) ?hy (by assumption) ?_
       case hy => intro w' h; clear h; go_simp; try with_reducible rfl
       simp only [Act.put, sT]
       refine takP 10 44 ?_ rfl (by kernel_rfl) (fun _ _ _ => id) ?hy (by assumption) ?_
       case hy => intro w' h; clear h; go_simp; try with_reducible rfl
       simp only [Act.put, sT]
       refine takP 11 45 ?_ rfl (by kernel_rfl) (fun _ _ _ => id) ?hy (by assumption) ?_
       case hy => intro w' h; clear h; go_simp; try with_reducible rfl
       simp only [Act.put, sT]
       refine takP 12 46 ?_ rfl (by kernel_rfl) (fun _ _ _ => id) ?hy (by assumption) ?_
       case hy => intro w' h; have hx := q1 w' h; clear h; go_simp; try with_reducible rfl
       simp only [Act.put, sT]
       refine takP 13 47 ?_ rfl (by kernel_rfl) (fun _ _ _ => id) ?hy (by assumption) ?_
       case hy => intro w' h; clear h; go_simp; try with_reducible rfl
       simp only [Act.put, sT]
       refine takeK 14 (some 48) (v := .agg ([.slice Ap 2 cp, .slice As 2 cs] : List Value).toArray) rfl (by kernel_rfl) (by kernel_rfl) (fun _ _ _ => id) (yieldsIf_load_mid (by kernel_rfl) 59 _ (by rfl) (w2.heap.size) (0) (by rfl) [.slice Ap 2 cp, .slice As 2 cs] _ (fun w' hw' => range_all hw'.2) Tryz.underlying59 rfl (by kernel_rfl)) (by assumption) ?_
       simp only [Act.put, sT]
       refine wpAnyH_ready (rs := [15]) (by kernel_rfl) (by simp) ?_
       refine AllReadyH.cons rfl (fun K hK => ?_) AllReadyH.nil
       rw [if_pos (by kernel_rfl)]
       try simp only [List.getElem_toArray]
       try simp only [List.getElem_cons_succ]
       try simp only [List.getElem_cons_zero]
       go_simp
       go_at_call 26
       refine HC5.out.mono ?_
       rintro e w5 ⟨rfl, a5, h2, h3, h4⟩
       have HL5 := Lib.hid h2; have HS5 := Lib.hid (HS4.out.trans h3); have HC5' := Lib.hid (HC4.out.trans (h4.same HS4.out)); have HO5 := Lib.hid (HL4.out.out h4 HO4.out); have HBx5 := Lib.hid (HL4.out.keep h4 HBx4.out (by decide) (by decide) (by decide) (by decide))
       clear h2 h3 h4
       have HSt5 : Hid (w5.cell? ⟨wob, 0, none⟩ = some (.pointer (some ⟨wb, 0, none⟩)) ∧ w5.heap[w2.heap.size]? = some (.cells #[.slice Ap 2 cp, .slice As 2 cs] 59 (0, 0))) := Lib.hid ⟨by have := block_cell HL5.out.box 0; simpa using this, HBx5.out⟩
       refine hK.out _ _ HSt5.out (fun _ => ?_)
       clear hK K
       try simp only [Act.put, sT]
       refine takP 16 50 ?_ rfl (by kernel_rfl) (fun _ _ _ => id) ?hy (by assumption) ?_
       case hy => intro w' h; clear h; go_simp; try with_reducible rfl
       simp only [Act.put, sT]
       refine takP 17 51 ?_ rfl (by kernel_rfl) (fun _ _ _ => id) ?hy (by assumption) ?_
       case hy => intro w' h; clear h; go_simp; try with_reducible rfl
       simp only [Act.put, sT]
       refine wpAnyH_done (by kernel_rfl) ?_ _
       clear q1 hHeld
       go_wp2
       go_roundw
       case rel => exact ⟨k + 1, a5, hlt, by go_num, HL5, HS5, HC5', HBx5, HO5⟩
       case measure => simp [RowKit.intOf]; omega
      ·obtain rfl : k = 2 := by omega
       have hd1 : decide (((2 : Nat) : Int) < 2) = false := by decide
       have hc0 := block_cell HL.out.box 0
       simp at hc0
       have hw0 := worth_any HL.out.way HL.out.ok HL.out.fit 0
       rw [HF.out.w0] at hw0
       have HW0 := Lib.hid hw0
       clear hw0
       go_wp2_with fail
       refine HW0.out.mono ?_
       rintro e v1 ⟨rfl, hb1⟩
       have HL1 := Lib.hid (HL.out.below hb1); have HD1 := Lib.hid (HC.out.trans (.of_below hb1))
       clear hb1 hc0
       have hc0 := block_cell HL1.out.box 0
       simp at hc0
       have hw0 := worth_any HL1.out.way HL1.out.ok HL1.out.fit 1
       rw [HF.out.w1] at hw0
       have HW1 := Lib.hid hw0
       clear hw0
       go_wp2_with fail
       refine HW1.out.mono ?_
       rintro e v2 ⟨rfl, hb2⟩
       have HL2 := Lib.hid (HL1.out.below hb2); have HD2 := Lib.hid (HD1.out.trans (.of_below hb2))
       clear hb2 hc0
       have hc0 := block_cell HL2.out.box 0
       simp at hc0
       have hw0 := worth_any HL2.out.way HL2.out.ok HL2.out.fit 2
       rw [HF.out.w2] at hw0
       have HW2 := Lib.hid hw0
       clear hw0
       go_wp2_with fail
       refine HW2.out.mono ?_
       rintro e v3 ⟨rfl, hb3⟩
       have HD3 := Lib.hid (HD2.out.trans (.of_below hb3))
       clear hb3 hc0
       go_wp2
       go_ret
       exact ⟨rfl, HD3.out.under HB1.out hbk hmb (fun k hf => by have := H1.out.way.F_ge hf; omega)⟩
end
end Go.Proofs.YthhiookcknnmdaaGreat
