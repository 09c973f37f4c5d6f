/- The walk of VirtualBack. Nothing is asked of the world but the arguments' bounds. -/
import Derived.Test.YthhiookcknnmdaaGreatJoinWbb
import Derived.Test.YthhiookcknnmdaaGreatJoinWaj
import Derived.Test.YthhiookcknnmdaaGreatJoinWba
import Derived.Test.YthhiookcknnmdaaGreatJoinWbc
namespace Go.Proofs.YthhiookcknnmdaaGreat
open Go.RowKit Go.Lib
section
set_option maxRecDepth 100000 in
set_option maxHeartbeats 16000000 in
theorem vback_any (hops a b : Nat) (hv : List Nat) (who : Nat) (hwo : who < 256) (Ah : Option Addr) (nh ch : Nat) (Al : Option Addr) (nl cl : Nat) (l : List Ac) (w : World) (hh : hops < 256) (ha : a < 256) (hb : b < 256) (hr : Rd w w.heap.size 1 Ah nh (bv hv)) (hv2 : ∀ x ∈ hv, x < 256) (hrl : Rd w w.heap.size 8 Al nl (flatC l)) (hlo : ∀ x ∈ l, x.ok) :
  Calls Tryz.prog 8 #[.int .u8 hops, .agg #[.int .u8 a, .int .u8 b], .slice Ah nh ch, .slice Al nl cl, .int .u8 who] w fun e w' => e = .returned (.bool true) ∧ Below w.heap.size w w' := by
 have HX0 : Hid ((w.alloc (.cells #[.int .u8 a, .int .u8 b] 45)).heap[w.heap.size]? = some (.cells #[.int .u8 a, .int .u8 b] 45 (0, 0))) := heap_alloc_new _ _
 have Hb0 := Lib.hid (below_one w (.cells #[.int .u8 a, .int .u8 b] 45))
 have HR := Lib.hid hr; have HV := Lib.hid hv2; have HRl := Lib.hid hrl; have HLo := Lib.hid hlo
 have Hll : Hid (l.length = nl) := Lib.hid hrl.clen
 clear hr hv2 hrl hlo
 by_cases hgo : nl ≤ 60 ∧ nh ≤ 10
 ·obtain ⟨hfew, hhv⟩ := hgo
  have hd60 : decide (nl ≤ 60) = true := decide_eq_true hfew
  have hd10 : decide ((nh : Int) > 10) = false := decide_eq_false (by omega)
  have hd11 : decide ((10 : Int) < (nh : Int)) = false := decide_eq_false (by omega)
  go_enter Tryz.func8, Tryz.ntmps8
  go_upto_region 1 with fail
  generalize w.alloc (.cells #[.int .u8 a, .int .u8 b] 45) = w0 at *
  go_upto_region 3 with (first | (go_at_call 14; refine (known_any w0).mono ?_; rintro e w1 ⟨rfl, hb1⟩; have Hb1 := Lib.hid (Hb0.out.trans (hb1.mono Hb0.out.size)); have HX1 := Lib.hid (block_below HX0.out hb1 (block_lt HX0.out)); clear hb1; have x0 := block_cell HX1.out 0; have x1 := block_cell HX1.out 1; simp at x0 x1) | (go_at_call 35; refine (few_any Al nl cl w1).mono ?_; rw [hd60]; rintro e w2 ⟨rfl, rfl⟩))
  have hbg := lbegin_any hops a b hv Ah nh ch w1 hh ha hb ((HR.out.below Hb1.out (Nat.le_refl _)).more Hb1.out.size) (by omega) HV.out
  obtain ⟨hn1, hn4⟩ := bgN_in hops
  have hinv : WInv (bgPl (bgN hops) a b) (bgPs a b hv (bgN hops)) (bgY (bgN hops) a b hv) := WInv.begin _ _ (bgPs_fit ha hb HV.out _)
  have hpl := bgPs_len a b hv (bgN hops)
  have HFit := Lib.hid (bgPs_fit ha hb HV.out (bgN hops))
  have HNo : Hid (∀ i, i < bgN hops → ((bgPs a b hv (bgN hops)).getD i default).no ≤ 1000) := Lib.hid fun i hi => bgPs_no hi
  have HUn : Hid (∀ i (k : Int), i < bgN hops → k = 0 ∨ k = 1 → (bgPl (bgN hops) a b).un i k < 1000) := Lib.hid fun i k hi hk => bgPl_un hn4 hi hk
  have HKs : Hid (∀ i, i ≤ bgN hops → (bgPl (bgN hops) a b).ks.getD i dz8 = keyD i) := Lib.hid fun i hi => bgKs_getD hi
  have HSb : Hid (∀ shy, shy ≤ bgN hops → ShyI (bgPl (bgN hops) a b) (bgPs a b hv (bgN hops)) shy (bgY (bgN hops) a b hv)) := Lib.hid fun shy hs => .begin hinv (by show shy < (bgKs (bgN hops)).length; rw [bgKs_len]; omega)
  generalize bgN hops = N at *
  generalize bgY N a b hv = y0 at *
  generalize bgPs a b hv N = Ps at *
  generalize bgPl N a b = p at *
  have HBg := Lib.hid hbg; have HInv := Lib.hid hinv; have Hpl := Lib.hid hpl
  clear hbg hinv hpl
  go_upto_region 4 with (go_at_call 19; refine HBg.out.mono ?_; rintro e w2 ⟨wob, B, Bb, wb, bk, mb, aW, Ak, ck, An, cn, Af, cf, Au, cu, rfl, hL, hB, hb2, hbk, hmb, hBB⟩)
  have H2 := Lib.hid hL; have HB2 := Lib.hid hB; have Hb2 := Lib.hid (Hb1.out.trans (hb2.mono Hb1.out.size))
  have hbk' : w.heap.size ≤ bk := by have := Hb1.out.size; omega
  have hmb' : w.heap.size ≤ mb := by have := Hb1.out.size; omega
  have hBB' : w.heap.size ≤ B := by have := Hb1.out.size; omega
  clear hL hB hb2 HBg hbk hmb hBB x0 x1
  have hsub : ((N + 1 : Nat) : Int) - 1 = (N : Int) := by omega
  go_upto_region 7 with (go_at_call 20; refine (last_any H2.out).mono ?_; rw [hsub]; rintro e w3 ⟨rfl, rfl⟩)
  have hshy : (who : Int) % ((N : Int) + 1) = ((who % (N + 1) : Nat) : Int) := by rw [show (N : Int) + 1 = ((N + 1 : Nat) : Int) by omega]; exact (Int.natCast_emod who (N + 1)).symm
  have hs5 := Nat.mod_lt who (show 0 < N + 1 by omega)
  rw [hshy]
  clear hshy
  generalize who % (N + 1) = shy at *
  have hshy4 : shy ≤ 4 := by omega
  have HSh := Lib.hid (HSb.out shy (by omega)); have HKk := Lib.hid (HKs.out shy (by omega))
  clear HSb HKs
  go_upto_region 9 with fail
  go_loopw [13, 51] (fun v i wr => ∃ (k : Nat) (a' : WyA), k ≤ nl ∧ v = .int .i64 (stA y0 l k).1 ∧ i = .int .i64 k ∧ Hid (LwAt wr B Bb wob wb bk mb (stA y0 l k).2.1 a' (stA y0 l k).2.2 Ak (N + 1) ck An N cn Af N cf (.slice Au N cu)) ∧ Hid (aW.sameF a') ∧ Hid (LChg aW bk mb w2 wr) ∧ Hid (ShyI p Ps shy (stA y0 l k).2.1)) (fun _ i _ => nl - (RowKit.intOf i).toNat)
  case atStart => exact ⟨0, aW, by omega, rfl, rfl, H2, Lib.hid (.refl _), Lib.hid (.refl _ _ _ _), HSh⟩
  case round =>
   obtain ⟨k, a', hk, rfl, rfl, HL, HS, HC, HSy⟩ := hrel
   have HBw : Hid (Below w.heap.size w wr) := Lib.hid (HC.out.under Hb2.out hbk' hmb' fun j hf => by have := H2.out.way.F_ge hf; omega)
   by_cases hkl : k < nl
   ·have hd1 : decide ((k : Int) < (nl : Int)) = true := decide_eq_true (by omega)
    have hki : (k : Int) < (nl : Int) := by omega
    obtain ⟨pb, po, hA, hpb, hrg⟩ := (HRl.out.below HBw.out (Nat.le_refl _)).crange hkl
    have hxo := getC_ok HLo.out k
    have hsc := stA_succ y0 l (k := k) (by rw [Hll.out]; exact hkl)
    have hlen := stA_len y0 l k
    have hnow := stA_now y0 HLo.out k
    have hbx := hxo.kb
    generalize l.getD k Ac.zero = x at *
    have HSc := Lib.hid hsc; have HXo := Lib.hid hxo; have HRg := Lib.hid hrg
    clear hsc hxo hrg
    subst hA
    generalize stA y0 l k = st at *
    obtain ⟨now, yk, Lk⟩ := st
    simp only at hlen hnow HSc HL HSy
    have hnw : 0 ≤ now + (x.by_ : Int) ∧ now + (x.by_ : Int) < 100000 := by omega
    have hdo := do_any (HL.out.below (below_one wr (.cells #[.int .u8 x.w, .int .u8 x.by_, .int .i64 x.hop, .int .i64 x.wh, .int .i64 x.party, .int .i64 x.a, .int .i64 x.b, .bool x.bad] 78))) x HXo.out (now + x.by_) (by omega) (by omega)
    have HAct := Lib.hid (HSy.out.act HKk.out hshy4 (L := Lk) (by omega) x (now + x.by_))
    have HDo := Lib.hid hdo
    have HXb : Hid ((wr.alloc (.cells #[.int .u8 x.w, .int .u8 x.by_, .int .i64 x.hop, .int .i64 x.wh, .int .i64 x.party, .int .i64 x.a, .int .i64 x.b, .bool x.bad] 78)).heap[wr.heap.size]? = some (.cells #[.int .u8 x.w, .int .u8 x.by_, .int .i64 x.hop, .int .i64 x.wh, .int .i64 x.party, .int .i64 x.a, .int .i64 x.b, .bool x.bad] 78 (0, 0))) := heap_alloc_new _ _
    have HCb := Lib.hid (HC.out.trans (.of_below (a := aW) (bk := bk) (mb := mb) (below_one wr (.cells #[.int .u8 x.w, .int .u8 x.by_, .int .i64 x.hop, .int .i64 x.wh, .int .i64 x.party, .int .i64 x.a, .int .i64 x.b, .bool x.bad] 78))))
    have HLb := Lib.hid (HL.out.below (below_one wr (.cells #[.int .u8 x.w, .int .u8 x.by_, .int .i64 x.hop, .int .i64 x.wh, .int .i64 x.party, .int .i64 x.a, .int .i64 x.b, .bool x.bad] 78)))
    clear hdo
    obtain ⟨hnw0, hnw1⟩ := hnw
    go_upto_region 10 with fail
    refine wp_region_list ?_
    refine wpList_value (.pointer (some ⟨pb, po + k * 8, none⟩)) (by kernel_rfl) (by go_simp) ?_
    simp only [Act.put, sA, sZ, sS]
    refine wpList_load_mid (by rfl) 78 _ (by rfl) pb (po + k * 8) (by rfl) [.int .u8 x.w, .int .u8 x.by_, .int .i64 x.hop, .int .i64 x.wh, .int .i64 x.party, .int .i64 x.a, .int .i64 x.b, .bool x.bad] _ HRg.out Tryz.underlying78 rfl (by kernel_rfl) ?_
    simp only [Act.put, sA, sZ, sS]
    go_upto_region 11 with fail
    generalize wr.alloc (.cells #[.int .u8 x.w, .int .u8 x.by_, .int .i64 x.hop, .int .i64 x.wh, .int .i64 x.party, .int .i64 x.a, .int .i64 x.b, .bool x.bad] 78) = w4 at *
    obtain ⟨r0, r1, r2, r3, r4, r5, r6, r7⟩ : w4.cell? ⟨wr.heap.size, 0, none⟩ = some (.int .u8 x.w) ∧ w4.cell? ⟨wr.heap.size, 1, none⟩ = some (.int .u8 x.by_) ∧ w4.cell? ⟨wr.heap.size, 2, none⟩ = some (.int .i64 x.hop) ∧ w4.cell? ⟨wr.heap.size, 3, none⟩ = some (.int .i64 x.wh) ∧ w4.cell? ⟨wr.heap.size, 4, none⟩ = some (.int .i64 x.party) ∧ w4.cell? ⟨wr.heap.size, 5, none⟩ = some (.int .i64 x.a) ∧ w4.cell? ⟨wr.heap.size, 6, none⟩ = some (.int .i64 x.b) ∧ w4.cell? ⟨wr.heap.size, 7, none⟩ = some (.bool x.bad) := ⟨block_cell HXb.out 0, block_cell HXb.out 1, block_cell HXb.out 2, block_cell HXb.out 3, block_cell HXb.out 4, block_cell HXb.out 5, block_cell HXb.out 6, block_cell HXb.out 7⟩
    go_upto_region 13 with (go_at_call 38; refine HDo.out.mono ?_; rintro e w5 ⟨rfl, a5, h1, h2, h3⟩; have HL5 := Lib.hid h1; have HS5 := Lib.hid (HS.out.trans h2); have HC5 := Lib.hid (HCb.out.trans (h3.same HS.out)); have HX5 := Lib.hid (HLb.out.keep h3 HXb.out (by decide) (by decide) (by decide) (by decide)); clear h1 h2 h3)
    clear r0 r1 r2 r3 r4 r5 r6 r7
    have hl6 : LwAt w5 B Bb wob wb bk mb (stA y0 l (k + 1)).2.1 a5 (stA y0 l (k + 1)).2.2 Ak (N + 1) ck An N cn Af N cf (.slice Au N cu) := by rw [HSc.out]; exact HL5.out
    have hn6 : (stA y0 l (k + 1)).1 = now + x.by_ := by rw [HSc.out]
    have hy6 : (lawDo yk Lk x (now + x.by_)).2.1 = (stA y0 l (k + 1)).2.1 := by rw [HSc.out]
    rw [hy6] at HAct
    clear HL5 HSc hy6
    generalize (lawDo yk Lk x (now + x.by_)).1 = er at *
    obtain ⟨r0, r4, r7⟩ : w5.cell? ⟨wr.heap.size, 0, none⟩ = some (.int .u8 x.w) ∧ w5.cell? ⟨wr.heap.size, 4, none⟩ = some (.int .i64 x.party) ∧ w5.cell? ⟨wr.heap.size, 7, none⟩ = some (.bool x.bad) := ⟨block_cell HX5.out 0, block_cell HX5.out 4, block_cell HX5.out 7⟩
    have HL6 := Lib.hid hl6; have Hn6 := Lib.hid hn6
    clear hl6 hn6
    have HBx := Lib.hid (HC5.out.under Hb2.out hbk' hmb' fun j hf => by have := H2.out.way.F_ge hf; omega)
    rcases HAct.out with ⟨⟨e1, e2, e3⟩, e4⟩ | ⟨n1, n2, hsy⟩
    ·have b1 : ((x.w : Int) % 4 == 1) = true := by simp; omega
     have b2 : (x.party == (shy : Int)) = true := by simp [e2]
     rw [e4] at r7
     subst e3
     clear HAct e1 e2 e4
     go_wp2_with fail
     go_ret
     exact ⟨rfl, HBx.out⟩
    ·have hal : (stA y0 l (k + 1)).2.1.ag.length ≤ 100 := by
      have h1 := HL6.out.ok.na
      have h2 := hsy.inv.len
      have h3 := HL6.out.ok.np
      have h4 := Hpl.out
      omega
     have hrd := ready_any HL6.out.way hal
     rw [hsy.ready] at hrd
     have HRd := Lib.hid hrd; have HSy6 := Lib.hid hsy
     have hc0 := block_cell HL6.out.box 0
     simp at hc0
     clear hrd hsy HAct hal
     have hsh : 0 ≤ (shy : Int) ∧ (shy : Int) ≤ 4 := by omega
     obtain ⟨hsh0, hsh1⟩ := hsh
     by_cases c1 : x.w % 4 = 1
     ·have b1 : ((x.w : Int) % 4 == 1) = true := by simp; omega
      have b4 : ((x.w : Int) % 4 == 2) = false := by simp; omega
      by_cases c2 : x.party = (shy : Int)
      ·have b2 : (x.party == (shy : Int)) = true := by simp [c2]
       have b3 : (er == 0) = false := by simp only [beq_eq_false_iff_ne, ne_eq]; exact fun e => n1 ⟨c1, c2, e⟩
       clear n1 n2 c1 c2
       go_upto_region 17 with (go_at_call 23; refine HRd.out.mono ?_; rintro e w6 ⟨rfl, rfl⟩)
       go_wp2
       go_roundw
       case rel => exact ⟨k + 1, a5, hkl, by rw [Hn6.out], by go_num, HL6, HS5, HC5, HSy6⟩
       case measure => simp [RowKit.intOf]; omega
      ·have b2 : (x.party == (shy : Int)) = false := by simp only [beq_eq_false_iff_ne, ne_eq]; exact c2
       clear n1 n2 c1 c2
       go_upto_region 17 with (go_at_call 23; refine HRd.out.mono ?_; rintro e w6 ⟨rfl, rfl⟩)
       go_wp2
       go_roundw
       case rel => exact ⟨k + 1, a5, hkl, by rw [Hn6.out], by go_num, HL6, HS5, HC5, HSy6⟩
       case measure => simp [RowKit.intOf]; omega
     ·have b1 : ((x.w : Int) % 4 == 1) = false := by simp; omega
      by_cases c4 : x.w % 4 = 2
      ·have b4 : ((x.w : Int) % 4 == 2) = true := by simp; omega
       have b3 : (er == 0) = false := by simp only [beq_eq_false_iff_ne, ne_eq]; exact fun e => n2 ⟨c4, e⟩
       clear n1 n2 c1 c4
       go_upto_region 17 with (go_at_call 23; refine HRd.out.mono ?_; rintro e w6 ⟨rfl, rfl⟩)
       go_wp2
       go_roundw
       case rel => exact ⟨k + 1, a5, hkl, by rw [Hn6.out], by go_num, HL6, HS5, HC5, HSy6⟩
       case measure => simp [RowKit.intOf]; omega
      ·have b4 : ((x.w : Int) % 4 == 2) = false := by simp; omega
       clear n1 n2 c1 c4
       go_upto_region 17 with (go_at_call 23; refine HRd.out.mono ?_; rintro e w6 ⟨rfl, rfl⟩)
       go_wp2
       go_roundw
       case rel => exact ⟨k + 1, a5, hkl, by rw [Hn6.out], by go_num, HL6, HS5, HC5, HSy6⟩
       case measure => simp [RowKit.intOf]; omega
   ·obtain rfl : k = nl := by omega
    have hd1 : decide ((k : Int) < (k : Int)) = false := decide_eq_false (by omega)
    have hnow := stA_now y0 HLo.out k
    generalize stA y0 l k = st at *
    obtain ⟨now, yk, Lk⟩ := st
    simp only at hnow HL HSy
    have hnw : 0 ≤ now ∧ now < 100000 := by omega
    clear hnow
    obtain ⟨hnw0, hnw1⟩ := hnw
    go_upto_region 19 with (go_at_call 20; refine (last_any HL.out).mono ?_; rw [hsub]; rintro e w6 ⟨rfl, rfl⟩)
    have HCw := HC; have HLw := HL; have HSw := HS
    obtain ⟨w6, hw6⟩ : ∃ v : World, v = wr := ⟨_, rfl⟩
    subst hw6
    have HNl : Hid (∀ y', WInv p Ps y' → y'.pu.length ≤ 100) := Lib.hid fun y' h => by have h1 := h.len; have h2 := Hpl.out; omega
    go_loopw [99] (fun i wz => ∃ (j : Nat) (yj : Wy) (aj : WyA), j ≤ N ∧ i = .int .i64 j ∧ Hid (LwAt wz B Bb wob wb bk mb yj aj Lk Ak (N + 1) ck An N cn Af N cf (.slice Au N cu)) ∧ Hid (aW.sameF aj) ∧ Hid (LChg aW bk mb w2 wz) ∧ Hid (ShyI p Ps shy yj)) (fun i _ => N - (RowKit.intOf i).toNat)
    case atStart => exact ⟨0, yk, a', by omega, rfl, HL, HS, HC, HSy⟩
    case round =>
     obtain ⟨j, yj, aj, hj, rfl, HL, HS, HC, HSy⟩ := hrel
     by_cases hjt : j < N
     ·have hd2 : decide ((j : Int) < (N : Int)) = true := decide_eq_true (by omega)
      have hji : (j : Int) < (N : Int) := by omega
      have hjl : j < Ps.length := by have := Hpl.out; omega
      have hno := HNo.out j hjt
      have hun0 := HUn.out j 0 hjt (.inl rfl); have hun1 := HUn.out j 1 hjt (.inr rfl)
      have HNoj := Lib.hid hno; have HUj := Lib.hid (And.intro hun0 hun1)
      clear hno hun0 hun1
      go_upto_region 22 with fail
      obtain ⟨w7, hw7⟩ : ∃ v : World, v = wr := ⟨_, rfl⟩
      subst hw7
      go_loopw [102] (fun i wz => ∃ (q : Nat) (yq : Wy) (aq : WyA), q ≤ 2 ∧ i = .int .i64 q ∧ Hid (LwAt wz B Bb wob wb bk mb yq aq Lk Ak (N + 1) ck An N cn Af N cf (.slice Au N cu)) ∧ Hid (aW.sameF aq) ∧ Hid (LChg aW bk mb w2 wz) ∧ Hid (ShyI p Ps shy yq) ∧ Hid ((0 < q → yq.atI j 0 ≠ 1) ∧ (1 < q → yq.atI j 1 ≠ 1))) (fun i _ => 2 - (RowKit.intOf i).toNat)
      case atStart => exact ⟨0, yj, aj, by omega, rfl, HL, HS, HC, HSy, Lib.hid ⟨fun h => absurd h (by omega), fun h => absurd h (by omega)⟩⟩
      case round =>
       obtain ⟨q, yq, aq, hq, rfl, HL, HS, HC, HSy, HAt⟩ := hrel
       by_cases hqt : q < 2
       ·have hd3 : decide ((q : Int) < 2) = true := decide_eq_true (by omega)
        have hqi : (q : Int) < 2 := by omega
        have hq01 : (q : Int) = 0 ∨ (q : Int) = 1 := by omega
        have hfar : far (max now 1000) = true := by unfold far; simp; omega
        have hunq : p.un j (q : Int) < max now 1000 := by have := HUj.out; rcases hq01 with e | e <;> rw [e] <;> omega
        have hbe := HSy.out.backE hjl hq01 HNoj.out hfar hunq
        have hbs := HSy.out.backS hjl hq01 HNoj.out hfar hunq
        have hsy2 := HSy.out.back (j : Int) (q : Int) (max now 1000)
        have hat2 : (0 < q + 1 → (yq.back j q (max now 1000)).2.atI j 0 ≠ 1) ∧ (1 < q + 1 → (yq.back j q (max now 1000)).2.atI j 1 ≠ 1) := by
         rcases (show q = 0 ∨ q = 1 by omega) with rfl | rfl
         ·exact ⟨fun _ => hbs.1, fun h => absurd h (by omega)⟩
         ·exact ⟨fun _ => by rw [hbs.2 0 (by omega)]; exact HAt.out.1 (by omega), fun _ => hbs.1⟩
        have HAt2 := Lib.hid hat2; have HSy2 := Lib.hid hsy2
        have hih : yq.isHop (j : Int) = true := by rw [HSy.out.inv.isHop]; simp; omega
        have hisp : yq.isSpot (j : Int) (q : Int) = true := by unfold Wy.isSpot; rw [hih]; rcases hq01 with e | e <;> rw [e] <;> rfl
        have hstI : yq.stI (j : Int) (q : Int) = yq.atI j q := by unfold Wy.stI; rw [if_pos hisp]
        have hst := state_any HL.out.way (HNl.out _ HSy.out.inv) (j : Int) (q : Int)
        rw [hstI] at hst
        have HSt := Lib.hid hst; have HBe := Lib.hid hbe
        have hc0 := block_cell HL.out.box 0
        simp at hc0
        clear hbs hsy2 hat2 hih hisp hstI hst hbe hfar hunq
        generalize yq.atI j q = s at *
        generalize hyb : (yq.back j q (max now 1000)).2 = yb at *
        generalize heb : (yq.backI j q (max now 1000)).1 = eb at *
        have HYb := Lib.hid hyb; have HEb := Lib.hid heb
        clear hyb heb
        go_upto_region 25 with (go_at_call 41; refine HSt.out.mono ?_; rintro e w8 ⟨Ap, np, cp, As, ns, cs, rfl, hou, hb8⟩; have HL8 := Lib.hid (HL.out.below hb8); have HC8 := Lib.hid (HC.out.trans (.of_below (a := aW) (bk := bk) (mb := mb) hb8)); clear hou hb8 hc0)
        generalize hw9 : World.alloc w8 _ = w9 at *
        have hb9 : Below w8.heap.size w8 w9 := by rw [← hw9]; exact below_one _ _
        have HL9 := Lib.hid (HL8.out.below hb9)
        have HC9 := Lib.hid (HC8.out.trans (.of_below (a := aW) (bk := bk) (mb := mb) hb9))
        clear hw9 hb9
        have hc0 := block_cell HL9.out.box 0
        simp at hc0
        have hbk := lback_any HL9.out (j : Int) (q : Int) (max now 1000)
        rw [HYb.out, HEb.out] at hbk
        have HBk := Lib.hid hbk
        clear hbk
        go_upto_region 26 with (first | (go_at_call 42; refine HBk.out.mono ?_; rintro e wA ⟨rfl, aA, h1, h2, h3⟩; have HLA := Lib.hid h1; have HSA := Lib.hid (HS.out.trans h2); have HCA := Lib.hid (HC9.out.trans (h3.same HS.out)); clear h1 h2 h3))
        have hbe := HBe.out
        have hle : decide (now ≤ 1099511627776) = true := decide_eq_true (by omega)
        clear hc0 HBe HEb HYb HSt
        by_cases h1 : s = 1
        ·rw [if_pos h1] at hbe
         subst hbe
         subst h1
         go_wp2
         go_roundw
         case rel => exact ⟨q + 1, yb, aA, hqt, by go_num, HLA, HSA, HCA, HSy2, HAt2⟩
         case measure => simp [RowKit.intOf]; omega
        ·rw [if_neg h1] at hbe
         subst hbe
         have hs1 : (s == 1) = false := by simpa using h1
         have hs2 : (s != 1) = true := by simpa using h1
         clear h1
         go_wp2
         go_roundw
         case rel => exact ⟨q + 1, yb, aA, hqt, by go_num, HLA, HSA, HCA, HSy2, HAt2⟩
         case measure => simp [RowKit.intOf]; omega
       ·obtain rfl : q = 2 := by omega
        have hd3 : decide (((2 : Nat) : Int) < 2) = false := decide_eq_false (by omega)
        have hfr := HSy.out.free hjl (HAt.out.1 (by omega)) (HAt.out.2 (by omega))
        have hbg := ((HB2.out.chg H2.out HC.out).range Hpl.out hjt)
        obtain ⟨qb, qo, hA, _, _⟩ := hbg
        subst hA
        have hih : yq.isHop (j : Int) = true := by rw [HSy.out.inv.isHop]; simp; omega
        have hpo : yq.puO (j : Int) = yq.pu.getD j default := by unfold Wy.puO; rw [hih]; rfl
        have hpu := purse_any HL.out.way (j : Int)
        rw [hpo, hih] at hpu
        generalize yq.pu.getD j default = q6 at *
        obtain ⟨g0, g1, gh⟩ := hfr
        rw [gh] at hpu
        have HPu := Lib.hid hpu; have HG := Lib.hid (And.intro g0 g1)
        clear hpu hpo hih g0 g1 gh
        have hc0 := block_cell HL.out.box 0
        simp at hc0
        go_upto_region 30 with (go_at_call 39; refine HPu.out.mono ?_; rintro e w8 ⟨A9, n9, c9, rfl, hown, hn9, hb8⟩; have HL8 := Lib.hid (HL.out.below hb8); have HC8 := Lib.hid (HC.out.trans (.of_below (a := aW) (bk := bk) (mb := mb) hb8)); have HN9 : Hid (n9 = 0) := Lib.hid (by have := (Rd.of_own hown).1; simp [flatH] at this; omega); clear hown hb8 hc0)
        obtain rfl : n9 = 0 := HN9.out
        generalize hw9 : World.alloc w8 _ = w9 at *
        have HY9 : Hid (w9.heap[w8.heap.size]? = some (.cells #[.int .u8 q6.nm.x0, .int .u8 q6.nm.x1, .int .u8 q6.nm.x2, .int .u8 q6.nm.x3, .int .u8 q6.nm.x4, .int .u8 q6.nm.x5, .int .u8 q6.nm.x6, .int .u8 q6.nm.x7, .int .i64 q6.no, .int .i64 q6.h0, .int .i64 q6.h1, .slice A9 0 c9] 85 (0, 0))) := Lib.hid (by rw [← hw9]; exact heap_alloc_new _ _)
        have hb9 : Below w8.heap.size w8 w9 := by rw [← hw9]; exact below_one _ _
        have HL9 := Lib.hid (HL8.out.below hb9)
        have HC9 := Lib.hid (HC8.out.trans (.of_below (a := aW) (bk := bk) (mb := mb) hb9))
        clear hw9 hb9
        have hly := block_lt HY9.out
        have hrg : ∀ w', Below w9.heap.size w9 w' → w'.rangeAt qb (qo + j * 12 + 9) [.int .i64 q6.h0, .int .i64 q6.h1] := fun w' hw' => by
         have := have_range (((HB2.out.chg H2.out HC9.out).below hw').rangeA Hpl.out hjt)
         rw [← HG.out.1, ← HG.out.2] at this
         exact this
        have hsl : ∀ w', Below w9.heap.size w9 w' → w'.cell? ⟨w8.heap.size, 11, none⟩ = some (.slice A9 0 c9) := fun w' hw' => by have := block_cell (block_below HY9.out hw' hly) 11; simpa using this
        have hcp : ∀ w', Below w9.heap.size w9 w' → w'.cell? ⟨wob, 16, none⟩ = some (.slice (some ⟨qb, qo, none⟩) N cu) := fun w' hw' => by have := block_cell (HL9.out.below hw').box 16; simpa using this
        refine wp_region_held_drew (S := fun w' => Below w9.heap.size w9 w') (by kernel_rfl) (Below.refl _ _).drew (fun hHeld => ?_)
        refine takeK 0 (some 151) (v := ?_) rfl (by kernel_rfl) (by kernel_rfl) (fun _ _ _ => id) (Or.inl ⟨by kernel_rfl, ?hy⟩) (by assumption) ?_
        case hy => intro w' h; clear h; go_simp; try with_reducible rfl
        simp only [Act.put, sA, sZ, sS]
        refine takeK 1 (some 152) (v := ?_) rfl (by kernel_rfl) (by kernel_rfl) (fun _ _ _ => id) (Or.inl ⟨by kernel_rfl, ?hy⟩) (by assumption) ?_
        case hy => intro w' h; clear h; go_simp; try with_reducible rfl
        simp only [Act.put, sA, sZ, sS]
        refine takeK 2 (some 153) (v := ?_) rfl (by kernel_rfl) (by kernel_rfl) (fun _ _ _ => id) (Or.inl ⟨by kernel_rfl, ?hy⟩) (by assumption) ?_
        case hy => intro w' h; clear h; go_simp; try with_reducible rfl
        simp only [Act.put, sA, sZ, sS]
        refine takeK 3 (some 154) (v := ?_) rfl (by kernel_rfl) (by kernel_rfl) (fun _ _ _ => id) (Or.inl ⟨by kernel_rfl, ?hy⟩) (by assumption) ?_
        case hy => intro w' h; clear h; go_simp; try with_reducible rfl
        simp only [Act.put, sA, sZ, sS]
        refine takeK 4 (some 155) (v := .agg ([.int .i64 q6.h0, .int .i64 q6.h1] : List Value).toArray) rfl (by kernel_rfl) (by kernel_rfl) (fun _ _ _ => id) (yieldsIf_load_mid (by kernel_rfl) 29 _ (by rfl) (w8.heap.size) (9) (by rfl) [.int .i64 q6.h0, .int .i64 q6.h1] _ (fun w' hw' => have_range (range_all (block_below HY9.out hw' hly))) Tryz.underlying29 rfl (by kernel_rfl)) (by assumption) ?_
        simp only [Act.put, sA, sZ, sS]
        refine takeK 5 (some 156) (v := ?_) rfl (by kernel_rfl) (by kernel_rfl) (fun _ _ _ => id) (Or.inl ⟨by kernel_rfl, ?hy⟩) (by assumption) ?_
        case hy => intro w' h; clear h; go_simp; try with_reducible rfl
        simp only [Act.put, sA, sZ, sS]
        refine takeK 6 (some 157) (v := ?_) rfl (by kernel_rfl) (by kernel_rfl) (fun _ _ _ => id) (Or.inl ⟨by kernel_rfl, ?hy⟩) (by assumption) ?_
        case hy => intro w' h; clear h; go_simp; try with_reducible rfl
        simp only [Act.put, sA, sZ, sS]
        refine takeK 7 (some 158) (v := ?_) rfl (by kernel_rfl) (by kernel_rfl) (fun _ _ _ => id) (Or.inl ⟨by kernel_rfl, ?hy⟩) (by assumption) ?_
        case hy => intro w' h; clear h; go_simp; try with_reducible rfl
        simp only [Act.put, sA, sZ, sS]
        refine takeK 8 (some 159) (v := ?_) rfl (by kernel_rfl) (by kernel_rfl) (fun _ _ _ => id) (Or.inl ⟨by kernel_rfl, ?hy⟩) (by assumption) ?_
        case hy => intro w' h; have hx := hcp w' h; clear h; go_simp; try with_reducible rfl
        simp only [Act.put, sA, sZ, sS]
        refine takeK 9 (some 160) (v := ?_) rfl (by kernel_rfl) (by kernel_rfl) (fun _ _ _ => id) (Or.inl ⟨by kernel_rfl, ?hy⟩) (by assumption) ?_
        case hy => intro w' h; clear h; go_simp; try with_reducible rfl
        simp only [Act.put, sA, sZ, sS]
        refine takeK 10 (some 161) (v := ?_) rfl (by kernel_rfl) (by kernel_rfl) (fun _ _ _ => id) (Or.inl ⟨by kernel_rfl, ?hy⟩) (by assumption) ?_
        case hy => intro w' h; clear h; go_simp; try with_reducible rfl
        simp only [Act.put, sA, sZ, sS]
        refine takeK 11 (some 162) (v := ?_) rfl (by kernel_rfl) (by kernel_rfl) (fun _ _ _ => id) (Or.inl ⟨by kernel_rfl, ?hy⟩) (by assumption) ?_
        case hy => intro w' h; clear h; go_simp; try with_reducible rfl
        simp only [Act.put, sA, sZ, sS]
        refine takeK 12 (some 163) (v := .agg ([.int .i64 q6.h0, .int .i64 q6.h1] : List Value).toArray) rfl (by kernel_rfl) (by kernel_rfl) (fun _ _ _ => id) (yieldsIf_load_mid (by kernel_rfl) 29 _ (by rfl) (qb) ((qo + j * 12 + 9)) (by rfl) [.int .i64 q6.h0, .int .i64 q6.h1] _ hrg Tryz.underlying29 rfl (by kernel_rfl)) (by assumption) ?_
        simp only [Act.put, sA, sZ, sS]
        refine takeK 13 (some 164) (v := .bool false) rfl (by kernel_rfl) (by kernel_rfl) (fun _ _ _ => id) (Or.inl ⟨by kernel_rfl, fun w' _ => exec_binV (by rfl) (by rfl) (by rfl) ((two_guard q6.h0 q6.h1) _ _ w') ((two_refl q6.h0 q6.h1) w')⟩) (by assumption) ?_
        simp only [Act.put, sA, sZ, sS]
        refine takeK 14 (some 165) (v := ?_) rfl (by kernel_rfl) (by kernel_rfl) (fun _ _ _ => id) (Or.inl ⟨by kernel_rfl, ?hy⟩) (by assumption) ?_
        case hy => intro w' h; clear h; go_simp; try with_reducible rfl
        simp only [Act.put, sA, sZ, sS]
        refine takeK 15 (some 166) (v := ?_) rfl (by kernel_rfl) (by kernel_rfl) (fun _ _ _ => id) (Or.inl ⟨by kernel_rfl, ?hy⟩) (by assumption) ?_
        case hy => intro w' h; clear h; go_simp; try with_reducible rfl
        simp only [Act.put, sA, sZ, sS]
        refine takeK 16 (some 167) (v := ?_) rfl (by kernel_rfl) (by kernel_rfl) (fun _ _ _ => id) (Or.inl ⟨by kernel_rfl, ?hy⟩) (by assumption) ?_
        case hy => intro w' h; clear h; go_simp; try with_reducible rfl
        simp only [Act.put, sA, sZ, sS]
        refine takeK 17 (some 168) (v := ?_) rfl (by kernel_rfl) (by kernel_rfl) (fun _ _ _ => id) (Or.inl ⟨by kernel_rfl, ?hy⟩) (by assumption) ?_
        case hy => intro w' h; have hx := hsl w' h; clear h; go_simp; try with_reducible rfl
        simp only [Act.put, sA, sZ, sS]
        refine takeK 18 (some 169) (v := ?_) rfl (by kernel_rfl) (by kernel_rfl) (fun _ _ _ => id) (Or.inl ⟨by kernel_rfl, ?hy⟩) (by assumption) ?_
        case hy => intro w' h; clear h; go_simp; try with_reducible rfl
        simp only [Act.put, sA, sZ, sS]
        refine takeK 19 (some 170) (v := ?_) rfl (by kernel_rfl) (by kernel_rfl) (fun _ _ _ => id) (Or.inl ⟨by kernel_rfl, ?hy⟩) (by assumption) ?_
        case hy => intro w' h; clear h; go_simp; try with_reducible rfl
        simp only [Act.put, sA, sZ, sS]
        refine takeK 20 (some 171) (v := ?_) rfl (by kernel_rfl) (by kernel_rfl) (fun _ _ _ => id) (Or.inl ⟨by kernel_rfl, ?hy⟩) (by assumption) ?_
        case hy => intro w' h; clear h; go_simp; try with_reducible rfl
        simp only [Act.put, sA, sZ, sS]
        refine wpAnyH_done (by kernel_rfl) ?_ _
        have HCz := Lib.hid (HC9.out.trans (.of_below (a := aW) (bk := bk) (mb := mb) ((Below.refl w9.heap.size w9).drew)))
        have HLz := Lib.hid (HL9.out.below ((Below.refl w9.heap.size w9).drew))
        go_wp2
        go_roundw
        case rel => exact ⟨j + 1, yq, aq, hjt, by go_num, HLz, HS, HCz, HSy⟩
        case measure => simp [RowKit.intOf]; omega
     ·have hd2 : decide ((j : Int) < (N : Int)) = false := decide_eq_false (by omega)
      have HE := Lib.hid (HC.out.under Hb2.out hbk' hmb' fun j hf => by have := H2.out.way.F_ge hf; omega)
      go_wp2_with fail
      go_ret
      exact ⟨rfl, HE.out⟩
 ·have hbig : (decide (nl ≤ 60) && !decide ((10 : Int) < (nh : Int))) = false := by
   simp only [Bool.and_eq_false_iff, decide_eq_false_iff_not, Bool.not_eq_false', decide_eq_true_eq]
   omega
  go_enter Tryz.func8, Tryz.ntmps8
  go_upto_region 1 with fail
  generalize w.alloc (.cells #[.int .u8 a, .int .u8 b] 45) = w0 at *
  have HK : Hid (∀ v, Calls Tryz.prog 14 #[] v fun e w' => e = .returned (.bool true) ∧ Below v.heap.size v w') := Lib.hid fun v => (known_any v).mono fun e w' h => h
  cases h60 : decide (nl ≤ 60) with
  | false =>
   go_upto_region 2 with (first | (go_at_call 14; refine (HK.out w0).mono ?_; rintro e w1 ⟨rfl, hb1⟩; have Hb1 := Lib.hid (Hb0.out.trans (hb1.mono Hb0.out.size)); clear hb1) | (go_at_call 35; refine (few_any Al nl cl w1).mono ?_; rw [h60]; rintro e w2 ⟨rfl, rfl⟩))
   go_wp2_with (go_at_call 14; refine (HK.out _).mono ?_; rintro e w3 ⟨rfl, hb3⟩; have Hb3 := Lib.hid (Hb1.out.trans (hb3.mono Hb1.out.size)); clear hb3)
   go_ret
   exact ⟨rfl, Hb3.out⟩
  | true =>
   have hd11 : decide ((10 : Int) < (nh : Int)) = true := by
    rw [h60] at hbig
    simpa using hbig
   have hn10 : (10 : Int) < (nh : Int) := of_decide_eq_true hd11
   go_upto_region 2 with (first | (go_at_call 14; refine (HK.out w0).mono ?_; rintro e w1 ⟨rfl, hb1⟩; have Hb1 := Lib.hid (Hb0.out.trans (hb1.mono Hb0.out.size)); clear hb1) | (go_at_call 35; refine (few_any Al nl cl w1).mono ?_; rw [h60]; rintro e w2 ⟨rfl, rfl⟩))
   go_wp2_with (go_at_call 14; refine (HK.out _).mono ?_; rintro e w3 ⟨rfl, hb3⟩; have Hb3 := Lib.hid (Hb1.out.trans (hb3.mono Hb1.out.size)); clear hb3)
   go_ret
   exact ⟨rfl, Hb3.out⟩
end
end Go.Proofs.YthhiookcknnmdaaGreat
