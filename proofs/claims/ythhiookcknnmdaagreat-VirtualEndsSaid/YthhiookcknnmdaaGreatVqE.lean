/- The walk of VirtualEnds. Nothing is asked of the world but the arguments' bounds. -/
import Derived.Test.YthhiookcknnmdaaGreatJoinUaj
import Derived.Test.YthhiookcknnmdaaGreatJoinUba
namespace Go.Proofs.YthhiookcknnmdaaGreat
open Go.RowKit Go.Lib
theorem Ou.Own.below {o : Ou} {C : Nat} {Ap : Option Addr} {np cp : Nat} {As : Option Addr} {ns cs : Nat} {w w' : World} (h : o.Own C Ap np cp As ns cs w) (hb : Below w.heap.size w w') : o.Own C Ap np cp As ns cs w' := ⟨own_below h.p hb, h.s.below hb, h.bp, h.bs, h.so⟩
theorem wrapS_id {x : Int} (h0 : -10000000 ≤ x) (h1 : x < 10000000) : IntKind.i64.wrap x = x := by rw [IntKind.wrap_i64]; omega
section
set_option maxRecDepth 100000 in
set_option maxHeartbeats 16000000 in
theorem vends_any (hops a b : Nat) (hv : List Nat) (Ah : Option Addr) (nh ch : Nat) (pays turn : Nat) (w : World) (hh : hops < 256) (ha : a < 256) (hb : b < 256) (hp : pays < 65536) (ht : turn < 256) (hr : Rd w w.heap.size 1 Ah nh (bv hv)) (hv2 : ∀ x ∈ hv, x < 256)
  (hEP : ∀ n, 1 ≤ n → n ≤ 4 → EndP (bgPl n a b) (bgPs a b hv n) n) :
  Calls Tryz.prog 4 #[.int .u8 hops, .agg #[.int .u8 a, .int .u8 b], .slice Ah nh ch, .int .u16 pays, .int .u8 turn] w fun e w' => e = .returned (.bool true) ∧ Below w.heap.size w w' := by
 have HX0 : Hid ((w.alloc (.cells #[.int .u8 a, .int .u8 b] 45)).heap[w.heap.size]? = some (.cells #[.int .u8 a, .int .u8 b] 45 (0, 0))) := heap_alloc_new _ _
 have Hb0 := Lib.hid (below_one w (.cells #[.int .u8 a, .int .u8 b] 45))
 have HR := Lib.hid hr; have HV := Lib.hid hv2; have HEP := Lib.hid hEP
 clear hr hv2 hEP
 by_cases hhv : nh ≤ 10
 ·have hd10 : decide ((nh : Int) > 10) = false := decide_eq_false (by omega)
  have hd11 : decide ((10 : Int) < (nh : Int)) = false := decide_eq_false (by omega)
  go_enter Tryz.func4, Tryz.ntmps4
  go_upto_region 1 with fail
  generalize w.alloc (.cells #[.int .u8 a, .int .u8 b] 45) = w0 at *
  go_upto_region 3 with (go_at_call 14; refine (known_any w0).mono ?_; rintro e w1 ⟨rfl, hb1⟩; have Hb1 := Lib.hid (Hb0.out.trans (hb1.mono Hb0.out.size)); have HX1 := Lib.hid (block_below HX0.out hb1 (block_lt HX0.out)); clear hb1; have x0 := block_cell HX1.out 0; have x1 := block_cell HX1.out 1; simp at x0 x1)
  have hbg := lbegin_any hops a b hv Ah nh ch w1 hh ha hb ((HR.out.below Hb1.out (Nat.le_refl _)).more Hb1.out.size) (by omega) HV.out
  obtain ⟨hn1, hn4⟩ := bgN_in hops
  have hinv : WInv (bgPl (bgN hops) a b) (bgPs a b hv (bgN hops)) (bgY (bgN hops) a b hv) := WInv.begin _ _ (bgPs_fit ha hb HV.out _)
  have hpl := bgPs_len a b hv (bgN hops)
  have hep := HEP.out (bgN hops) hn1 hn4
  have HL0 : Hid (LckI (bgPl (bgN hops) a b) (bgPs a b hv (bgN hops)) (bgN hops) 0 (bgY (bgN hops) a b hv)) := Lib.hid (.begin hep hinv)
  have hs0 : (bgPl (bgN hops) a b).s0 = 1 + (a : Int) := rfl
  have hs1 : (bgPl (bgN hops) a b).s1 = 1 + (b : Int) := rfl
  generalize bgN hops = N at *
  generalize bgY N a b hv = y0 at *
  generalize bgPs a b hv N = Ps at *
  generalize bgPl N a b = p at *
  have HBg := Lib.hid hbg; have HInv := Lib.hid hinv; have Hpl := Lib.hid hpl; have HEp := Lib.hid hep; have HS0 := Lib.hid hs0; have HS1 := Lib.hid hs1
  clear hbg hinv hpl hep HEP hs0 hs1
  go_upto_region 4 with (go_at_call 19; refine HBg.out.mono ?_; rintro e w2 ⟨wob, B, Bb, wb, bk, mb, aW, Ak, ck, An, cn, Af, cf, Au, cu, rfl, hL, hB, hb2, hbk, hmb, hBB⟩)
  have H2 := Lib.hid hL; have Hb2 := Lib.hid (Hb1.out.trans (hb2.mono Hb1.out.size))
  have hbk' : w.heap.size ≤ bk := by have := Hb1.out.size; omega
  have hmb' : w.heap.size ≤ mb := by have := Hb1.out.size; omega
  have hBB' : w.heap.size ≤ B := by have := Hb1.out.size; omega
  clear hL hB hb2 HBg hbk hmb hBB x0 x1
  have hsub : ((N + 1 : Nat) : Int) - 1 = (N : Int) := by omega
  go_upto_region 8 with (go_at_call 20; refine (last_any H2.out).mono ?_; rw [hsub]; rintro e w3 ⟨rfl, rfl⟩)
  obtain ⟨i0, hi, hz0, hz1, hz2⟩ := info_parts info_int
  have HI := Lib.hid (And.intro hi (And.intro hz0 (And.intro hz1 hz2))); clear hi hz0 hz1 hz2
  go_loopw [12, 40] (fun v i wr => ∃ (k : Nat) (A' : Option Addr) (c' : Nat), k ≤ N + 1 ∧ v = .slice A' k c' ∧ i = .int .i64 k ∧ Hid (wr.ownsRow w2.heap.size 3 1 (.slice A' k c') k (ivs ((List.range k).map fun (j : Nat) => y0.worth (j : Int)))) ∧ Hid (Below w2.heap.size w2 wr)) (fun _ i _ => N + 1 - (RowKit.intOf i).toNat)
  case atStart => exact ⟨0, none, 0, by omega, rfl, rfl, Lib.hid (World.ownsRow_nil _ _ _ _), Lib.hid (Below.refl _ _)⟩
  case round =>
   obtain ⟨k, A', c', hk, rfl, rfl, HO, HB⟩ := hrel
   by_cases hlt : k < N + 1
   ·have hd1 : decide ((k : Int) < (N : Int) + 1) = true := decide_eq_true (by omega)
    have hki : (k : Int) < (N : Int) + 1 := by omega
    have HL := Lib.hid (H2.out.below HB.out)
    have hc0 := block_cell HL.out.box 0
    simp at hc0
    have hwo := worth_any HL.out.way HL.out.ok HL.out.fit (k : Int)
    have Hrs : Hid (ivs ((List.range (k + 1)).map fun (j : Nat) => y0.worth (j : Int)) = ivs ((List.range k).map fun (j : Nat) => y0.worth (j : Int)) ++ [.int .i64 (y0.worth (k : Int))]) := Lib.hid (by rw [List.range_succ, List.map_append]; simp [ivs])
    generalize y0.worth (k : Int) = wk at *
    have HWo := Lib.hid hwo
    clear hwo
    go_upto_region 11 with (first | (go_at_call 21; refine HWo.out.mono ?_; rintro e w3 ⟨rfl, hb3⟩; have HB3 := Lib.hid (HB.out.trans (hb3.mono HB.out.size)); have HO3 := Lib.hid (own_below HO.out hb3); clear hb3; have hs3 := HB3.out.size) | (at_builtin; go_must (refine append_at w3 (by rfl) _ _ 30 (by rfl) w2.heap.size 3 i0 (.int .i64 0) 1 8 Tryz.underlying30 HI.out rfl (by decide) _ _ _ (by rfl) HO3.out 1 1 #[.int .i64 wk] 3 (by simp [Act.eval]) rfl (by simp [Value.oneCell']) (by omega) (by omega) hs3 ?_; intro v7 w7 own7 bel7 gr7 at7; obtain ⟨A7, c7, rfl⟩ := own_form own7; have O7 := Lib.hid own7; have HB7 : Hid (Below w2.heap.size w2 w7) := Lib.hid (HB3.out.trans bel7); clear own7 bel7 gr7 at7)))
    go_wp2
    go_roundw
    case rel => exact ⟨k + 1, A7, c7, hlt, rfl, by go_num, by rw [Hrs.out]; exact O7, HB7⟩
    case measure => simp [RowKit.intOf]; omega
   ·have hkn : k = N + 1 := by omega
    subst hkn
    have hd1 : decide ((N : Int) + 1 < (N : Int) + 1) = false := decide_eq_false (by omega)
    have hn1' : ((N + 1 : Nat) : Int) = (N : Int) + 1 := by omega
    rw [hn1']
    clear hn1'
    have HL3 := Lib.hid (H2.out.below HB.out)
    have HC3 : Hid (LChg aW bk mb w2 wr) := Lib.hid (.of_below HB.out)
    have HRh := Lib.hid (Rd.of_own HO.out)
    obtain ⟨w3, hw3⟩ : ∃ z : World, z = wr := ⟨_, rfl⟩
    subst hw3
    obtain ⟨Aw, hAw⟩ : ∃ z, z = A' := ⟨_, rfl⟩
    obtain ⟨cw, hcw⟩ : ∃ z, z = c' := ⟨_, rfl⟩
    subst hAw hcw
    go_upto_region 13 with (go_at_call 20; refine (last_any HL3.out).mono ?_; rw [hsub]; rintro e w4 ⟨rfl, rfl⟩)
    go_loopw [55] (fun i wr => ∃ (h : Nat) (y' : Wy) (a' : WyA), h ≤ N ∧ i = .int .i64 h ∧ Hid (LwAt wr B Bb wob wb bk mb y' a' [] Ak (N + 1) ck An N cn Af N cf (.slice Au N cu)) ∧ Hid (aW.sameF a') ∧ Hid (LChg aW bk mb w3 wr) ∧ Hid (LckI p Ps N h y')) (fun i _ => N - (RowKit.intOf i).toNat)
    case atStart => exact ⟨0, y0, aW, by omega, rfl, HL3, Lib.hid (.refl _), Lib.hid (.refl _ _ _ _), HL0⟩
    case round =>
     obtain ⟨h, y', a', hh', rfl, HL, HS, HC, HK⟩ := hrel
     by_cases hlt : h < N
     ·have hd2 : decide ((h : Int) < (N : Int)) = true := decide_eq_true (by omega)
      have hki : (h : Int) < (N : Int) := by omega
      have hst := HK.out.step HEp.out hlt
      have hlk := llock_any HL.out (h : Int) (1 + (h : Int))
      rw [hst.1] at hlk
      have hc0 := block_cell HL.out.box 0
      simp at hc0
      obtain ⟨_, hk2⟩ := hst
      generalize (y'.lock (h : Int) (1 + (h : Int))).2 = y2 at *
      have HLk := Lib.hid hlk; have HK2 := Lib.hid hk2
      clear hlk hk2
      go_upto_region 17 with (go_at_call 22; refine HLk.out.mono ?_; rintro e w5 ⟨rfl, a5, h1, h2, h3⟩; have HL5 := Lib.hid h1; have HS5 := Lib.hid (HS.out.trans h2); have HC5 := Lib.hid (HC.out.trans (h3.same HS.out)); clear h1 h2 h3)
      go_wp2
      go_roundw
      case rel => exact ⟨h + 1, y2, a5, hlt, by go_num, HL5, HS5, HC5, HK2⟩
      case measure => simp [RowKit.intOf]; omega
     ·obtain rfl : h = N := by omega
      have hd2 : decide ((h : Int) < (h : Int)) = false := decide_eq_false (by omega)
      have HA0 : Hid (AgrI p Ps h 0 y') := Lib.hid (.of HK.out)
      go_upto_region 19 with (go_at_call 20; refine (last_any HL.out).mono ?_; rw [hsub]; rintro e w4 ⟨rfl, rfl⟩)
      go_loopw [71] (fun i wz => ∃ (q : Nat) (yq : Wy) (aq : WyA) (Lq : List En), q ≤ h + 1 ∧ i = .int .i64 q ∧ Lq.length ≤ q ∧ Hid (LwAt wz B Bb wob wb bk mb yq aq Lq Ak (h + 1) ck An h cn Af h cf (.slice Au h cu)) ∧ Hid (aW.sameF aq) ∧ Hid (LChg aW bk mb w3 wz) ∧ Hid (AgrI p Ps h q yq)) (fun i _ => h + 1 - (RowKit.intOf i).toNat)
      case atStart => exact ⟨0, y', a', [], by omega, rfl, by simp, HL, HS, HC, HA0⟩
      case round =>
       obtain ⟨q, yq, aq, Lq, hq, rfl, hlq, HL, HS, HC, HA⟩ := hrel
       by_cases hqt : q < h + 1
       ·have hd3 : decide ((q : Int) < (h : Int) + 1) = true := decide_eq_true (by omega)
        have hqi : (q : Int) < (h : Int) + 1 := by omega
        have hst := HA.out.step (L := Lq) HEp.out (by omega)
        have hla := lagree_any HL.out q (by omega) (by omega)
        rw [hst.1] at hla
        have hle : (lawAgree yq Lq q).2.2.length ≤ Lq.length + 1 := signE_len Lq _
        have hrd := ready_any HL.out.way (by have := HA.out.al; omega)
        rw [HA.out.ready, decide_eq_false (by omega)] at hrd
        have hc0 := block_cell HL.out.box 0
        simp at hc0
        obtain ⟨_, hk2⟩ := hst
        generalize (lawAgree yq Lq q).2.1 = y2 at *
        generalize (lawAgree yq Lq q).2.2 = L2 at *
        have HLa := Lib.hid hla; have HK2 := Lib.hid hk2; have HRd := Lib.hid hrd
        clear hla hk2 hrd
        go_upto_region 23 with (first | (go_at_call 23; refine HRd.out.mono ?_; rintro e w4 ⟨rfl, rfl⟩) | (go_at_call 24; refine HLa.out.mono ?_; rintro e w5 ⟨rfl, a5, h1, h2, h3⟩; have HL5 := Lib.hid h1; have HS5 := Lib.hid (HS.out.trans h2); have HC5 := Lib.hid (HC.out.trans (h3.same HS.out)); clear h1 h2 h3))
        go_wp2
        go_roundw
        case rel => exact ⟨q + 1, y2, a5, L2, by omega, by go_num, by omega, HL5, HS5, HC5, HK2⟩
        case measure => simp [RowKit.intOf]; omega
       ·obtain rfl : q = h + 1 := by omega
        have hd3 : decide ((h : Int) + 1 < (h : Int) + 1) = false := decide_eq_false (by omega)
        have hn1' : ((h + 1 : Nat) : Int) = (h : Int) + 1 := by omega
        rw [hn1']
        clear hn1'
        go_upto_region 24 with fail
        obtain ⟨sa, hsa⟩ : ∃ z : Nat, 1 + a = z := ⟨_, rfl⟩
        obtain ⟨sb, hsb⟩ : ∃ z : Nat, 1 + b = z := ⟨_, rfl⟩
        have hs0 : p.s0 = (sa : Int) := by rw [HS0.out]; omega
        have hs1 : p.s1 = (sb : Int) := by rw [HS1.out]; omega
        have hsa2 : sa ≤ 256 := by omega
        have hsb2 : sb ≤ 256 := by omega
        have q10 : ∀ w', Below wr.heap.size wr w' → w'.cell? ⟨wob, 10, none⟩ = some (.int .i64 sa) := fun w' hw' => by
         have := block_cell (HL.out.below hw').box 10
         rw [← hs0, ← HA.out.inv.pl]; simpa using this
        have q11 : ∀ w', Below wr.heap.size wr w' → w'.cell? ⟨wob, 11, none⟩ = some (.int .i64 sb) := fun w' hw' => by
         have := block_cell (HL.out.below hw').box 11
         rw [← hs1, ← HA.out.inv.pl]; simpa using this
        have HSa := Lib.hid hs0; have HSb := Lib.hid hs1
        clear hsa hsb hs0 hs1
        have hws : IntKind.i64.wrap ((sa : Int) + (sb : Int)) = (sa : Int) + (sb : Int) := wrapI_id (by omega) (by omega)
        obtain ⟨w5, hw5⟩ : ∃ z : World, z = wr := ⟨_, rfl⟩
        subst hw5
        go_cut [16] (fun s wx => s = .int .i64 ((sa : Int) + (sb : Int)) ∧ Below w5.heap.size w5 wx)
        case first =>
         refine wp_region_held_drew (S := fun w' => Below w5.heap.size w5 w') (by kernel_rfl) (Below.refl _ _).drew (fun hHeld => ?_)
         refine takP 0 86 ?_ rfl (by kernel_rfl) (fun _ _ _ => id) ?hy (by assumption) ?_
         case hy => intro w' h; clear h; go_simp; try with_reducible rfl
         simp only [Act.put, sT]
         refine takP 1 87 ?_ rfl (by kernel_rfl) (fun _ _ _ => id) ?hy (by assumption) ?_
         case hy => intro w' h; clear h; go_simp; try with_reducible rfl
         simp only [Act.put, sT]
         refine takP 2 88 ?_ rfl (by kernel_rfl) (fun _ _ _ => id) ?hy (by assumption) ?_
         case hy => intro w' h; clear h; go_simp; try with_reducible rfl
         simp only [Act.put, sT]
         refine takP 3 89 ?_ rfl (by kernel_rfl) (fun _ _ _ => id) ?hy (by assumption) ?_
         case hy => intro w' h; clear h; go_simp; try with_reducible rfl
         simp only [Act.put, sT]
         refine takP 4 90 ?_ rfl (by kernel_rfl) (fun _ _ _ => id) ?hy (by assumption) ?_
         case hy => intro w' h; clear h; go_simp; try with_reducible rfl
         simp only [Act.put, sT]
         refine takP 5 91 ?_ rfl (by kernel_rfl) (fun _ _ _ => id) ?hy (by assumption) ?_
         case hy => intro w' h; have hx := q10 w' h; clear h; go_simp; try with_reducible rfl
         simp only [Act.put, sT]
         refine takP 6 92 ?_ rfl (by kernel_rfl) (fun _ _ _ => id) ?hy (by assumption) ?_
         case hy => intro w' h; clear h; go_simp; try with_reducible rfl
         simp only [Act.put, sT]
         refine takP 7 93 ?_ rfl (by kernel_rfl) (fun _ _ _ => id) ?hy (by assumption) ?_
         case hy => intro w' h; clear h; go_simp; try with_reducible rfl
         simp only [Act.put, sT]
         refine takP 8 94 ?_ rfl (by kernel_rfl) (fun _ _ _ => id) ?hy (by assumption) ?_
         case hy => intro w' h; clear h; go_simp; try with_reducible rfl
         simp only [Act.put, sT]
         refine takP 9 95 ?_ rfl (by kernel_rfl) (fun _ _ _ => id) ?hy (by assumption) ?_
         case hy => intro w' h; clear h; go_simp; try with_reducible rfl
         simp only [Act.put, sT]
         refine takP 10 96 ?_ rfl (by kernel_rfl) (fun _ _ _ => id) ?hy (by assumption) ?_
         case hy => intro w' h; clear h; go_simp; try with_reducible rfl
         simp only [Act.put, sT]
         refine takP 11 97 ?_ rfl (by kernel_rfl) (fun _ _ _ => id) ?hy (by assumption) ?_
         case hy => intro w' h; have hx := q11 w' h; clear h; go_simp; try with_reducible rfl
         simp only [Act.put, sT]
         refine takP 12 98 ?_ rfl (by kernel_rfl) (fun _ _ _ => id) ?hy (by assumption) ?_
         case hy => intro w' h; clear h; go_simp; try with_reducible rfl
         simp only [Act.put, sT]
         refine takP 13 16 ?_ rfl (by kernel_rfl) (fun _ _ _ => id) ?hy (by assumption) ?_
         case hy => intro w' h; clear h; go_simp; try with_reducible rfl
         simp only [Act.put, sT]
         refine wpAnyH_done (by kernel_rfl) ?_ _
         go_wp2_with fail
         go_meet
         exact ⟨rfl, (Below.refl _ _).drew⟩
        obtain ⟨rfl, hbc⟩ := hcut
        have HL := Lib.hid (HL.out.below hbc)
        have HC := Lib.hid (HC.out.trans (.of_below (a := aW) (bk := bk) (mb := mb) hbc))
        clear hbc q10 q11 hws
        obtain ⟨am, ham⟩ : ∃ z : Nat, pays % (sa + sb + 1) = z := ⟨_, rfl⟩
        have hal : am ≤ sa + sb := by have := Nat.mod_lt pays (show 0 < sa + sb + 1 by omega); omega
        have hpm : (pays : Int) % ((sa : Int) + (sb : Int) + 1) = (am : Int) := by rw [← ham, show (sa : Int) + (sb : Int) + 1 = ((sa + sb + 1 : Nat) : Int) by omega]; exact (Int.natCast_emod pays _).symm
        have HPm := Lib.hid hpm
        have hpb : 0 ≤ (pays : Int) % ((sa : Int) + (sb : Int) + 1) := by rw [hpm]; omega
        have hnz : ¬ ((sa : Int) + (sb : Int) + 1 = 0) := by omega
        clear ham hpm
        go_upto_region 26 with fail
        rw [HPm.out]
        have hws : IntKind.i64.wrap ((sa : Int) + (sb : Int) - (am : Int)) = (sa : Int) + (sb : Int) - (am : Int) := wrapI_id (by omega) (by omega)
        have hou := outcome_any HL.out (am : Int) ((sa : Int) + (sb : Int) - (am : Int)) ⟨by omega, by omega⟩ ⟨by omega, by omega⟩ (by omega) (by omega) (by omega)
        have hgo := outD_good HEp.out Lq (a := (am : Int)) (b := (sa : Int) + (sb : Int) - (am : Int)) (by omega) (by omega)
        have hpy : (outD Lq (h + 1) (am : Int) ((sa : Int) + (sb : Int) - (am : Int))).1.pays = [(am : Int), (sa : Int) + (sb : Int) - (am : Int)] := rfl
        have hol : (outD Lq (h + 1) (am : Int) ((sa : Int) + (sb : Int) - (am : Int))).2.length ≤ Lq.length + 2 := outD_len _ _ _ _
        generalize outD Lq (h + 1) (am : Int) ((sa : Int) + (sb : Int) - (am : Int)) = od at *
        obtain ⟨o, Lo⟩ := od
        simp only at hou hgo hpy hol
        have HOu := Lib.hid hou; have HGo := Lib.hid hgo; have HPy := Lib.hid hpy
        clear hou hgo hpy
        go_upto_region 27 with (go_at_call 25; refine HOu.out.mono ?_; rintro e w6 ⟨Ap, cp, As, cs, rfl, how, hl, hc, -, -⟩; have HOw := Lib.hid how; have HL6 := Lib.hid hl; have HC6 := Lib.hid (HC.out.trans (hc.same HS.out)); clear how hl hc)
        generalize hw7 : World.alloc w6 _ = w7 at *
        have hb7 : Below w6.heap.size w6 w7 := by rw [← hw7]; exact below_one _ _
        have HX7 : Hid (w7.heap[w6.heap.size]? = some (.cells #[.slice Ap 2 cp, .slice As 2 cs] 59 (0, 0))) := Lib.hid (by rw [← hw7]; exact heap_alloc_new _ _)
        have HL7 := Lib.hid (HL6.out.below hb7)
        have HO7 := Lib.hid (HOw.out.below hb7)
        have HC7 := Lib.hid (HC6.out.trans (.of_below (a := aW) (bk := bk) (mb := mb) hb7))
        clear hw7 hb7 HL6 HOw HC6
        go_upto_region 28 with (go_at_call 20; refine (last_any HL7.out).mono ?_; rw [hsub]; rintro e w4 ⟨rfl, rfl⟩)
        have HR7 : Hid (AgrI p Ps h (h + 1) yq) := HA
        have HO0 : Hid (OpnI p Ps h o turn 0 yq) := Lib.hid (.of HA.out)
        go_loopw [113] (fun i wz => ∃ (m : Nat) (ym : Wy) (am' : WyA), m ≤ 2 * h ∧ i = .int .i64 m ∧ Hid (LwAt wz B Bb wob wb bk mb ym am' Lo Ak (h + 1) ck An h cn Af h cf (.slice Au h cu)) ∧ Hid (aW.sameF am') ∧ Hid (LChg aW bk mb w3 wz) ∧ Hid (OpnI p Ps h o turn m ym) ∧ Hid (o.Own wc.heap.size Ap 2 cp As 2 cs wz) ∧ Hid (wz.heap[w6.heap.size]? = some (.cells #[.slice Ap 2 cp, .slice As 2 cs] 59 (0, 0)))) (fun i _ => 2 * h - (RowKit.intOf i).toNat)
        case atStart => exact ⟨0, yq, aq, by omega, rfl, HL7, HS, HC7, HO0, HO7, HX7⟩
        case round =>
         obtain ⟨m, ym, am', hm, rfl, HL, HS, HC, HOp, HOw, HXo⟩ := hrel
         by_cases hmt : m < 2 * h
         ·have hd4 : decide ((m : Int) < 2 * (h : Int)) = true := decide_eq_true (by omega)
          have hmi : (m : Int) < 2 * (h : Int) := by omega
          have hst := HOp.out.step HEp.out hmt HGo.out
          have hlt := Nat.mod_lt (m + turn) (show 0 < 2 * h by omega)
          have hmod : ((m : Int) + (turn : Int)) % (2 * (h : Int)) = (((m + turn) % (2 * h) : Nat) : Int) := by rw [show (m : Int) + (turn : Int) = ((m + turn : Nat) : Int) by omega, show 2 * (h : Int) = ((2 * h : Nat) : Int) by omega]; exact (Int.natCast_emod _ _).symm
          generalize (m + turn) % (2 * h) = ix at *
          have hnz : ¬ (2 * (h : Int) = 0) := by omega
          have hmb : 0 ≤ ((m : Int) + (turn : Int)) % (2 * (h : Int)) := by rw [hmod]; omega
          have HMo := Lib.hid hmod; have HSt := Lib.hid hst
          clear hmod hst
          go_upto_region 31 with (go_at_call 20; refine (last_any HL.out).mono ?_; rw [hsub]; rintro e w8 ⟨rfl, rfl⟩)
          rw [HMo.out]
          have hq2 : (ix : Int) / 2 = ((ix / 2 : Nat) : Int) := by omega
          have hr2 : (ix : Int) % 2 = ((ix % 2 : Nat) : Int) := by omega
          have hn2 : ¬ ((2 : Int) = 0) := by decide
          have hx0 : 0 ≤ (ix : Int) := by omega
          have hx1 : 0 ≤ (ix : Int) / 2 := by omega
          have hx2 : 0 ≤ (ix : Int) % 2 := by omega
          have hwx1 : IntKind.i64.wrap ((ix : Int) / 2) = (ix : Int) / 2 := wrapI_id (by omega) (by omega)
          have hwx2 : IntKind.i64.wrap ((ix : Int) % 2) = (ix : Int) % 2 := wrapI_id (by omega) (by omega)
          have HSx : Hid ((ym.openI Lo ((ix : Int) / 2) ((ix : Int) % 2) 100 o).1 = 0 ∧ OpnI p Ps h o turn (m + 1) (ym.open_ Lo ((ix : Int) / 2) ((ix : Int) % 2) 100 o).2) := Lib.hid (by rw [hq2, hr2]; exact HSt.out)
          have HLo := Lib.hid (show Lo.length < 60000 by omega)
          have HBx : Hid (wr.heap[wob]? = some (.cells #[.pointer (some ⟨wb, 0, none⟩), .int .u8 ym.pl.tb.x0, .int .u8 ym.pl.tb.x1, .int .u8 ym.pl.tb.x2, .int .u8 ym.pl.tb.x3, .int .u8 ym.pl.tb.x4, .int .u8 ym.pl.tb.x5, .int .u8 ym.pl.tb.x6, .int .u8 ym.pl.tb.x7, .slice Ak (h + 1) ck, .int .i64 ym.pl.s0, .int .i64 ym.pl.s1, .slice An h cn, .slice Af h cf, .pointer (some ⟨bk, 0, none⟩), .int .i64 10, .slice Au h cu] 54 (0, 0))) := Lib.hid HL.out.box
          clear hq2 hr2 HSt
          refine wp_region_held_drew (S := fun w' => w'.heap[wob]? = some (.cells #[.pointer (some ⟨wb, 0, none⟩), .int .u8 ym.pl.tb.x0, .int .u8 ym.pl.tb.x1, .int .u8 ym.pl.tb.x2, .int .u8 ym.pl.tb.x3, .int .u8 ym.pl.tb.x4, .int .u8 ym.pl.tb.x5, .int .u8 ym.pl.tb.x6, .int .u8 ym.pl.tb.x7, .slice Ak (h + 1) ck, .int .i64 ym.pl.s0, .int .i64 ym.pl.s1, .slice An h cn, .slice Af h cf, .pointer (some ⟨bk, 0, none⟩), .int .i64 10, .slice Au h cu] 54 (0, 0)) ∧ w'.heap[w6.heap.size]? = some (.cells #[.slice Ap 2 cp, .slice As 2 cs] 59 (0, 0))) (by kernel_rfl) ⟨HBx.out, HXo.out⟩ (fun hHeld => ?_)
          have hc1 : ∀ w' : World, (w'.heap[wob]? = some (.cells #[.pointer (some ⟨wb, 0, none⟩), .int .u8 ym.pl.tb.x0, .int .u8 ym.pl.tb.x1, .int .u8 ym.pl.tb.x2, .int .u8 ym.pl.tb.x3, .int .u8 ym.pl.tb.x4, .int .u8 ym.pl.tb.x5, .int .u8 ym.pl.tb.x6, .int .u8 ym.pl.tb.x7, .slice Ak (h + 1) ck, .int .i64 ym.pl.s0, .int .i64 ym.pl.s1, .slice An h cn, .slice Af h cf, .pointer (some ⟨bk, 0, none⟩), .int .i64 10, .slice Au h cu] 54 (0, 0)) ∧ w'.heap[w6.heap.size]? = some (.cells #[.slice Ap 2 cp, .slice As 2 cs] 59 (0, 0))) → w'.cell? ⟨wob, 0, none⟩ = some (.pointer (some ⟨wb, 0, none⟩)) := fun w' hw' => by have := block_cell hw'.1 0; simpa using this
          refine takP 0 124 ?_ rfl (by kernel_rfl) (fun _ _ _ => id) ?hy (by assumption) ?_
          case hy => intro w' h; clear h; go_simp; try with_reducible rfl
          simp only [Act.put, sT]
          refine takP 1 125 ?_ rfl (by kernel_rfl) (fun _ _ _ => id) ?hy (by assumption) ?_
          case hy => intro w' h; clear h; go_simp; try with_reducible rfl
          simp only [Act.put, sT]
          refine takP 2 126 ?_ rfl (by kernel_rfl) (fun _ _ _ => id) ?hy (by assumption) ?_
          case hy => intro w' h; clear h; go_simp; try with_reducible rfl
          simp only [Act.put, sT]
          refine takP 3 127 ?_ rfl (by kernel_rfl) (fun _ _ _ => id) ?hy (by assumption) ?_
          case hy => intro w' h; have hx := hc1 w' h; clear h; go_simp; try with_reducible rfl
          simp only [Act.put, sT]
          refine takP 4 128 ?_ rfl (by kernel_rfl) (fun _ _ _ => id) ?hy (by assumption) ?_
          case hy => intro w' h; clear h; go_simp; try with_reducible rfl
          simp only [Act.put, sT]
          refine takP 5 129 ?_ rfl (by kernel_rfl) (fun _ _ _ => id) ?hy (by assumption) ?_
          case hy => intro w' h; clear h; go_simp; try with_reducible rfl
          simp only [Act.put, sT]
          refine takP 6 130 ?_ rfl (by kernel_rfl) (fun _ _ _ => id) ?hy (by assumption) ?_
          case hy => intro w' h; clear h; go_simp; try with_reducible rfl
          simp only [Act.put, sT]
          refine takP 7 131 ?_ rfl (by kernel_rfl) (fun _ _ _ => id) ?hy (by assumption) ?_
          case hy => intro w' h; clear h; go_simp; try with_reducible rfl
          simp only [Act.put, sT]
          refine takeK 8 (some 132) (v := .agg ([.slice Ap 2 cp, .slice As 2 cs] : List Value).toArray) rfl (by kernel_rfl) (by kernel_rfl) (fun _ _ _ => id) (yieldsIf_load_mid (by kernel_rfl) 59 _ (by rfl) (w6.heap.size) (0) (by rfl) [.slice Ap 2 cp, .slice As 2 cs] _ (fun w' hw' => range_all hw'.2) Tryz.underlying59 rfl (by kernel_rfl)) (by assumption) ?_
          simp only [Act.put, sT]
          refine wpAnyH_ready (rs := [9]) (by kernel_rfl) (by simp) ?_
          refine AllReadyH.cons rfl (fun K hK => ?_) AllReadyH.nil
          try simp only [List.getElem_toArray, List.getElem_cons_zero, List.getElem_cons_succ]
          go_simp
          go_at_call 26
          have hlop := lopen_any (HL.out.below (Below.refl _ _).drew) HLo.out ((ix : Int) / 2) ((ix : Int) % 2) 100 o Ap 2 cp As 2 cs (HOw.out.below (Below.refl _ _).drew)
          rw [HSx.out.1] at hlop
          refine hlop.mono ?_
          clear hlop
          rintro e wn ⟨rfl, an, h1, h2, h3⟩
          have hSn := And.intro ((HL.out.below (Below.refl _ _).drew).keep h3 HBx.out (by decide) (by decide) (by decide) (by decide)) ((HL.out.below (Below.refl _ _).drew).keep h3 HXo.out (by decide) (by decide) (by decide) (by decide))
          have HOn := Lib.hid ((HL.out.below (Below.refl _ _).drew).out h3 (HOw.out.below (Below.refl _ _).drew))
          have HLz := Lib.hid h1; have HSz := Lib.hid (HS.out.trans h2)
          have HCz := Lib.hid (HC.out.trans ((LChg.of_below (a := aW) (bk := bk) (mb := mb) (Below.refl _ _).drew).trans (h3.same HS.out)))
          have HXn := Lib.hid hSn.2
          clear h1 h2 h3 hc1
          refine hK.out _ _ hSn (fun _ => ?_)
          clear hK K
          try simp only [Act.put, sT]
          clear hSn
          refine takP 10 134 ?_ rfl (by kernel_rfl) (fun _ _ _ => id) ?hy (by assumption) ?_
          case hy => intro w' h; clear h; go_simp; try with_reducible rfl
          simp only [Act.put, sT]
          refine wpAnyH_done (by kernel_rfl) ?_ _
          go_wp2_with fail
          go_roundw
          case rel => exact ⟨m + 1, _, an, hmt, by go_num, HLz, HSz, HCz, Lib.hid HSx.out.2, HOn, HXn⟩
          case measure => simp [RowKit.intOf]; omega
         ·obtain rfl : m = 2 * h := by omega
          have hd4 : decide (2 * (h : Int) < 2 * (h : Int)) = false := decide_eq_false (by omega)
          have hm2 : ((2 * h : Nat) : Int) = 2 * (h : Int) := by omega
          rw [hm2]
          clear hm2
          go_upto_region 34 with fail
          have HEn := Lib.hid (fun (j : Nat) (hj : j ≤ h) => OpnI.end_worth HOp.out HEp.out HL0.out (am := (am : Int)) (by rw [HPy.out, HSa.out, HSb.out]) hj)
          have hwin : ∀ j : Nat, j ≤ h → 0 ≤ y0.worth (j : Int) ∧ y0.worth (j : Int) ≤ 2000 := fun j hj => LckI.worth0_in HL0.out HEp.out hj
          have HWin := Lib.hid hwin
          have HOw3 := Lib.hid (HL3.out.own HC.out HO.out (by decide) (by decide) (by decide) (by decide))
          have HRw := Lib.hid ((Rd.of_own HOw3.out).more (B' := wr.heap.size) (Nat.le_refl _))
          have HUn : Hid (Below w.heap.size w wr) := Lib.hid (HC.out.under (Hb2.out.trans (HB.out.mono Hb2.out.size)) hbk' hmb' fun j hf => by have := HL3.out.way.F_ge hf; omega)
          have q10 : ∀ w', Below wr.heap.size wr w' → w'.cell? ⟨wob, 10, none⟩ = some (.int .i64 sa) := fun w' hw' => by
           have := block_cell (HL.out.below hw').box 10
           rw [← HSa.out, ← HOp.out.inv.pl]; simpa using this
          have q11 : ∀ w', Below wr.heap.size wr w' → w'.cell? ⟨wob, 11, none⟩ = some (.int .i64 sb) := fun w' hw' => by
           have := block_cell (HL.out.below hw').box 11
           rw [← HSb.out, ← HOp.out.inv.pl]; simpa using this
          have HQ10 := Lib.hid q10; have HQ11 := Lib.hid q11
          clear hwin q10 q11
          go_upto_region 35 with fail
          obtain ⟨w9, hw9⟩ : ∃ z : World, z = wr := ⟨_, rfl⟩
          subst hw9
          go_loopw [138] (fun i wz => ∃ j : Nat, j ≤ h + 1 ∧ i = .int .i64 j ∧ Hid (Below w9.heap.size w9 wz)) (fun i _ => h + 1 - (RowKit.intOf i).toNat)
          case atStart => exact ⟨0, by omega, rfl, Lib.hid (Below.refl _ _)⟩
          case round =>
           obtain ⟨j, hj, rfl, HB9⟩ := hrel
           have HLz := Lib.hid (HL.out.below HB9.out)
           by_cases hjt : j < h + 1
           ·have hd5 : decide ((j : Int) < (h : Int) + 1) = true := decide_eq_true (by omega)
            have hjh : j ≤ h := by omega
            have hji : (j : Int) < (h : Int) + 1 := by omega
            have hwo := worth_any HLz.out.way HLz.out.ok HLz.out.fit (j : Int)
            rw [HEn.out j hjh] at hwo
            have hb0 := HWin.out j hjh
            obtain ⟨rb, ro, hA, hbB, hx0⟩ := ((HRw.out.below HB9.out (Nat.le_refl _)).iat (k := j) hjt)
            have hgd : ((List.range (h + 1)).map fun (i : Nat) => y0.worth (i : Int)).getD j 0 = y0.worth (j : Int) := by
             rw [List.getD_eq_getElem?_getD, List.getElem?_map, List.getElem?_range hjt]; rfl
            rw [hgd] at hx0
            subst hA
            generalize y0.worth (j : Int) = wj at *
            have hc0 := block_cell HLz.out.box 0
            simp at hc0
            have q10 := HQ10.out _ HB9.out
            have q11 := HQ11.out _ HB9.out
            obtain ⟨hb1, hb2⟩ := hb0
            by_cases hj0 : j = 0
            ·have e1 : ((j : Int) == 0) = true := by rw [beq_iff_eq]; omega
             have hv : IntKind.i64.wrap ((am : Int) - (sa : Int)) = (am : Int) - (sa : Int) := wrapS_id (by omega) (by omega)
             have hv2 : IntKind.i64.wrap (wj + ((am : Int) - (sa : Int))) = wj + ((am : Int) - (sa : Int)) := wrapS_id (by omega) (by omega)
             rw [if_pos hj0, HSa.out] at hwo
             have HWo := Lib.hid hwo
             clear hwo hgd hj0
             go_upto_region 44 with (first | (go_at_call 20; refine (last_any HLz.out).mono ?_; rw [hsub]; rintro e w4 ⟨rfl, rfl⟩) | (go_at_call 21; refine HWo.out.mono ?_; rintro e wy ⟨rfl, hby⟩; have HBy := Lib.hid (HB9.out.trans (hby.mono HB9.out.size)); clear hby))
             go_wp2
             go_roundw
             case rel => exact ⟨j + 1, by omega, by go_num, HBy⟩
             case measure => simp [RowKit.intOf]; omega
            ·have e1 : ((j : Int) == 0) = false := by rw [beq_eq_false_iff_ne]; omega
             rw [if_neg hj0] at hwo
             by_cases hjn : j = h
             ·have e2 : ((j : Int) == (h : Int)) = true := by rw [beq_iff_eq]; omega
              have hv : IntKind.i64.wrap ((sa : Int) + (sb : Int) - (am : Int)) = (sa : Int) + (sb : Int) - (am : Int) := wrapS_id (by omega) (by omega)
              have hv2 : IntKind.i64.wrap ((sa : Int) + (sb : Int) - (am : Int) - (sb : Int)) = (sa : Int) + (sb : Int) - (am : Int) - (sb : Int) := wrapS_id (by omega) (by omega)
              have hv3 : IntKind.i64.wrap (wj + ((sa : Int) + (sb : Int) - (am : Int) - (sb : Int))) = wj + ((sa : Int) + (sb : Int) - (am : Int) - (sb : Int)) := wrapS_id (by omega) (by omega)
              rw [if_pos hjn, HSa.out, HSb.out] at hwo
              have HWo := Lib.hid hwo
              clear hwo hgd hj0 hjn
              go_upto_region 44 with (first | (go_at_call 20; refine (last_any HLz.out).mono ?_; rw [hsub]; rintro e w4 ⟨rfl, rfl⟩) | (go_at_call 21; refine HWo.out.mono ?_; rintro e wy ⟨rfl, hby⟩; have HBy := Lib.hid (HB9.out.trans (hby.mono HB9.out.size)); clear hby))
              go_wp2
              go_roundw
              case rel => exact ⟨j + 1, by omega, by go_num, HBy⟩
              case measure => simp [RowKit.intOf]; omega
             ·have e2 : ((j : Int) == (h : Int)) = false := by rw [beq_eq_false_iff_ne]; omega
              rw [if_neg hjn, Int.add_zero] at hwo
              have HWo := Lib.hid hwo
              clear hwo hgd hj0 hjn
              go_upto_region 44 with (first | (go_at_call 20; refine (last_any HLz.out).mono ?_; rw [hsub]; rintro e w4 ⟨rfl, rfl⟩) | (go_at_call 21; refine HWo.out.mono ?_; rintro e wy ⟨rfl, hby⟩; have HBy := Lib.hid (HB9.out.trans (hby.mono HB9.out.size)); clear hby))
              go_wp2
              go_roundw
              case rel => exact ⟨j + 1, by omega, by go_num, HBy⟩
              case measure => simp [RowKit.intOf]; omega
           ·obtain rfl : j = h + 1 := by omega
            have hd5 : decide ((h : Int) + 1 < (h : Int) + 1) = false := decide_eq_false (by omega)
            have hag : ym.ag.length ≤ 100 := by rw [HLz.out.ok.na, HOp.out.inv.pl, HEp.out.kl]; omega
            have hrd := ready_any HLz.out.way hag
            rw [HOp.out.rdy] at hrd
            have hc0 := block_cell HLz.out.box 0
            simp at hc0
            have HRd := Lib.hid hrd
            clear hrd
            have hn1' : ((h + 1 : Nat) : Int) = (h : Int) + 1 := by omega
            rw [hn1']
            clear hn1'
            have HE := Lib.hid (HUn.out.trans (HB9.out.mono HUn.out.size))
            go_wp2_with (go_at_call 23; refine HRd.out.mono ?_; rintro e w4 ⟨rfl, rfl⟩)
            go_ret
            exact ⟨rfl, HE.out⟩
 ·have hd11 : decide ((10 : Int) < (nh : Int)) = true := decide_eq_true (by omega)
  have hn10 : (10 : Int) < (nh : Int) := by omega
  have hd10 : decide ((nh : Int) > 10) = true := decide_eq_true (by omega)
  go_enter Tryz.func4, Tryz.ntmps4
  go_upto_region 1 with fail
  generalize w.alloc (.cells #[.int .u8 a, .int .u8 b] 45) = w0 at *
  have HK : Hid (∀ v, Calls Tryz.prog 14 #[] v fun e w' => e = .returned (.bool true) ∧ Below v.heap.size v w') := Lib.hid fun v => (known_any v).mono fun e w' h => h
  go_upto_region 2 with (go_at_call 14; refine (HK.out w0).mono ?_; rintro e w1 ⟨rfl, hb1⟩; have Hb1 := Lib.hid (Hb0.out.trans (hb1.mono Hb0.out.size)); clear hb1)
  go_wp2_with (go_at_call 14; refine (HK.out _).mono ?_; rintro e w3 ⟨rfl, hb3⟩; have Hb3 := Lib.hid (Hb1.out.trans (hb3.mono Hb1.out.size)); clear hb3)
  go_ret
  exact ⟨rfl, Hb3.out⟩
end
end Go.Proofs.YthhiookcknnmdaaGreat
