/- The walk of VirtualMoney. Nothing is asked of the world but the arguments' bounds. -/
import Derived.Test.YthhiookcknnmdaaGreatJoinVbb
import Derived.Test.YthhiookcknnmdaaGreatJoinVaj
import Derived.Test.YthhiookcknnmdaaGreatJoinVba
import Derived.Test.YthhiookcknnmdaaGreatJoinVbc
namespace Go.Proofs.YthhiookcknnmdaaGreat
open Go.RowKit Go.Lib
section
set_option maxRecDepth 100000 in
set_option maxHeartbeats 16000000 in
theorem vmoney_any (hops a b : Nat) (hv : List Nat) (Ah : Option Addr) (nh ch : Nat) (Al : Option Addr) (nl cl : Nat) (l : List Ac) (w : World) (hh : hops < 256) (ha : a < 256) (hb : b < 256) (hr : Rd w w.heap.size 1 Ah nh (bv hv)) (hv2 : ∀ x ∈ hv, x < 256) (hrl : Rd w w.heap.size 8 Al nl (flatC l)) (hlo : ∀ x ∈ l, x.ok) :
  Calls Tryz.prog 7 #[.int .u8 hops, .agg #[.int .u8 a, .int .u8 b], .slice Ah nh ch, .slice Al nl cl] w fun e w' => e = .returned (.bool true) ∧ Below w.heap.size w w' := by
 have HX0 : Hid ((w.alloc (.cells #[.int .u8 a, .int .u8 b] 45)).heap[w.heap.size]? = some (.cells #[.int .u8 a, .int .u8 b] 45 (0, 0))) := heap_alloc_new _ _
 have Hb0 := Lib.hid (below_one w (.cells #[.int .u8 a, .int .u8 b] 45))
 have HR := Lib.hid hr; have HV := Lib.hid hv2; have HRl := Lib.hid hrl; have HLo := Lib.hid hlo
 have Hll : Hid (l.length = nl) := Lib.hid hrl.clen
 clear hr hv2 hrl hlo
 by_cases hgo : nl ≤ 60 ∧ nh ≤ 10
 ·obtain ⟨hfew, hhv⟩ := hgo
  have hd60 : decide (nl ≤ 60) = true := decide_eq_true hfew
  have hd10 : decide ((nh : Int) > 10) = false := decide_eq_false (by omega)
  have hd11 : decide ((10 : Int) < (nh : Int)) = false := decide_eq_false (by omega)
  go_enter Tryz.func7, Tryz.ntmps7
  go_upto_region 1 with fail
  generalize w.alloc (.cells #[.int .u8 a, .int .u8 b] 45) = w0 at *
  go_upto_region 3 with (first | (go_at_call 14; refine (known_any w0).mono ?_; rintro e w1 ⟨rfl, hb1⟩; have Hb1 := Lib.hid (Hb0.out.trans (hb1.mono Hb0.out.size)); have HX1 := Lib.hid (block_below HX0.out hb1 (block_lt HX0.out)); clear hb1; have x0 := block_cell HX1.out 0; have x1 := block_cell HX1.out 1; simp at x0 x1) | (go_at_call 35; refine (few_any Al nl cl w1).mono ?_; rw [hd60]; rintro e w2 ⟨rfl, rfl⟩))
  have hbg := lbegin_any hops a b hv Ah nh ch w1 hh ha hb ((HR.out.below Hb1.out (Nat.le_refl _)).more Hb1.out.size) (by omega) HV.out
  obtain ⟨hn1, hn4⟩ := bgN_in hops
  have hinv : WInv (bgPl (bgN hops) a b) (bgPs a b hv (bgN hops)) (bgY (bgN hops) a b hv) := WInv.begin _ _ (bgPs_fit ha hb HV.out _)
  have hpl := bgPs_len a b hv (bgN hops)
  have HFit := Lib.hid (bgPs_fit ha hb HV.out (bgN hops))
  generalize bgN hops = N at *
  generalize bgY N a b hv = y0 at *
  generalize bgPs a b hv N = Ps at *
  generalize bgPl N a b = p at *
  have HBg := Lib.hid hbg; have HInv := Lib.hid hinv; have Hpl := Lib.hid hpl
  clear hbg hinv hpl
  go_upto_region 4 with (go_at_call 19; refine HBg.out.mono ?_; rintro e w2 ⟨wob, B, Bb, wb, bk, mb, aW, Ak, ck, An, cn, Af, cf, Au, cu, rfl, hL, hB, hb2, hbk, hmb, hBB⟩)
  have H2 := Lib.hid hL; have HB2 := Lib.hid hB; have Hb2 := Lib.hid (Hb1.out.trans (hb2.mono Hb1.out.size))
  have hbk' : w.heap.size ≤ bk := by have := Hb1.out.size; omega
  have hmb' : w.heap.size ≤ mb := by have := Hb1.out.size; omega
  have hBB' : w.heap.size ≤ B := by have := Hb1.out.size; omega
  clear hL hB hb2 HBg hbk hmb hBB x0 x1
  have hsub : ((N + 1 : Nat) : Int) - 1 = (N : Int) := by omega
  go_upto_region 8 with (go_at_call 20; refine (last_any H2.out).mono ?_; rw [hsub]; rintro e w3 ⟨rfl, rfl⟩)
  go_loopw [10, 43] (fun v i wr => ∃ (k : Nat), k ≤ N + 1 ∧ v = .int .i64 (sumW y0 k) ∧ i = .int .i64 k ∧ Hid (Below w2.heap.size w2 wr)) (fun _ i _ => N + 1 - (RowKit.intOf i).toNat)
  case atStart => exact ⟨0, by omega, rfl, rfl, Lib.hid (Below.refl _ _)⟩
  case round =>
   obtain ⟨k, hk, rfl, rfl, HB⟩ := hrel
   by_cases hlt : k < N + 1
   ·have hd1 : decide ((k : Int) < (N : Int) + 1) = true := decide_eq_true (by omega)
    have hki : (k : Int) < (N : Int) + 1 := by omega
    have HL := Lib.hid (H2.out.below HB.out)
    have hc0 := block_cell HL.out.box 0
    simp at hc0
    have hwo := worth_any HL.out.way HL.out.ok HL.out.fit (k : Int)
    have hsb := sumW_bound HL.out.fit k (by omega)
    have hwb := worth_bound HL.out.fit (k : Int)
    have HSs : Hid (sumW y0 (k + 1) = sumW y0 k + y0.worth k) := Lib.hid rfl
    generalize y0.worth (k : Int) = wk at *
    generalize sumW y0 k = sk at *
    have HWo := Lib.hid hwo
    clear hwo
    go_upto_region 11 with (go_at_call 21; refine HWo.out.mono ?_; rintro e w3 ⟨rfl, hb3⟩; have HB3 := Lib.hid (HB.out.trans (hb3.mono HB.out.size)); clear hb3)
    go_wp2
    go_roundw
    case rel => exact ⟨k + 1, hlt, by rw [HSs.out], by go_num, HB3⟩
    case measure => simp [RowKit.intOf]; omega
   ·have hkn : k = N + 1 := by omega
    subst hkn
    have hd1 : decide ((N : Int) + 1 < (N : Int) + 1) = false := decide_eq_false (by omega)
    have hn1 : ((N + 1 : Nat) : Int) = (N : Int) + 1 := by omega
    rw [hn1]
    clear hn1
    have H3 := Lib.hid (H2.out.below HB.out)
    have HB3 := Lib.hid (HB2.out.chg H2.out (.of_below (bk := bk) (mb := mb) HB.out))
    have Hb3 := Lib.hid (Hb2.out.trans (HB.out.mono Hb2.out.size))
    obtain ⟨w3, hw3⟩ : ∃ w3 : World, w3 = wr := ⟨_, rfl⟩
    subst hw3
    have hs0 : sumW y0 (N + 1) = sumT Ps N := by have := HInv.out.sum_all; rw [Hpl.out] at this; exact this
    rw [hs0]
    clear hs0
    go_upto_region 14 with fail
    go_loopw [12, 57] (fun v i wr => ∃ (k : Nat) (a' : WyA), k ≤ nl ∧ v = .int .i64 (stA y0 l k).1 ∧ i = .int .i64 k ∧ Hid (LwAt wr B Bb wob wb bk mb (stA y0 l k).2.1 a' (stA y0 l k).2.2 Ak (N + 1) ck An N cn Af N cf (.slice Au N cu)) ∧ Hid (aW.sameF a') ∧ Hid (LChg aW bk mb w3 wr)) (fun _ i _ => nl - (RowKit.intOf i).toNat)
    case atStart => exact ⟨0, aW, by omega, rfl, rfl, H3, Lib.hid (.refl _), Lib.hid (.refl _ _ _ _)⟩
    case round =>
     obtain ⟨k, a', hk, rfl, rfl, HL, HS, HC⟩ := hrel
     have HBw : Hid (Below w.heap.size w wr) := Lib.hid (HC.out.under Hb3.out hbk' hmb' fun j hf => by have := H3.out.way.F_ge hf; omega)
     by_cases hkl : k < nl
     ·have hd1 : decide ((k : Int) < (nl : Int)) = true := decide_eq_true (by omega)
      have hki : (k : Int) < (nl : Int) := by omega
      obtain ⟨pb, po, hA, hpb, hrg⟩ := (HRl.out.below HBw.out (Nat.le_refl _)).crange hkl
      have hxo := getC_ok HLo.out k
      have hsc := stA_succ y0 l (k := k) (by rw [Hll.out]; exact hkl)
      have hlen := stA_len y0 l k
      have hnow := stA_now y0 HLo.out k
      have hbx := hxo.kb
      generalize l.getD k Ac.zero = x at *
      have HSc := Lib.hid hsc; have HXo := Lib.hid hxo; have HRg := Lib.hid hrg
      clear hsc hxo hrg
      subst hA
      generalize stA y0 l k = st at *
      obtain ⟨now, yk, Lk⟩ := st
      simp only at hlen hnow HSc HL
      have hnw : 0 ≤ now + (x.by_ : Int) ∧ now + (x.by_ : Int) < 100000 := by omega
      have hdo := do_any (HL.out.below (below_one wr (.cells #[.int .u8 x.w, .int .u8 x.by_, .int .i64 x.hop, .int .i64 x.wh, .int .i64 x.party, .int .i64 x.a, .int .i64 x.b, .bool x.bad] 78))) x HXo.out (now + x.by_) (by omega) (by omega)
      have HDo := Lib.hid hdo
      have HXb : Hid ((wr.alloc (.cells #[.int .u8 x.w, .int .u8 x.by_, .int .i64 x.hop, .int .i64 x.wh, .int .i64 x.party, .int .i64 x.a, .int .i64 x.b, .bool x.bad] 78)).heap[wr.heap.size]? = some (.cells #[.int .u8 x.w, .int .u8 x.by_, .int .i64 x.hop, .int .i64 x.wh, .int .i64 x.party, .int .i64 x.a, .int .i64 x.b, .bool x.bad] 78 (0, 0))) := heap_alloc_new _ _
      have HCb := Lib.hid (HC.out.trans (.of_below (a := aW) (bk := bk) (mb := mb) (below_one wr (.cells #[.int .u8 x.w, .int .u8 x.by_, .int .i64 x.hop, .int .i64 x.wh, .int .i64 x.party, .int .i64 x.a, .int .i64 x.b, .bool x.bad] 78))))
      clear hdo
      obtain ⟨hnw0, hnw1⟩ := hnw
      go_upto_region 15 with fail
      refine wp_region_list ?_
      refine wpList_value (.pointer (some ⟨pb, po + k * 8, none⟩)) (by kernel_rfl) (by go_simp) ?_
      simp only [Act.put, sA, sZ, sS]
      refine wpList_load_mid (by rfl) 78 _ (by rfl) pb (po + k * 8) (by rfl) [.int .u8 x.w, .int .u8 x.by_, .int .i64 x.hop, .int .i64 x.wh, .int .i64 x.party, .int .i64 x.a, .int .i64 x.b, .bool x.bad] _ HRg.out Tryz.underlying78 rfl (by kernel_rfl) ?_
      simp only [Act.put, sA, sZ, sS]
      go_upto_region 16 with fail
      generalize wr.alloc (.cells #[.int .u8 x.w, .int .u8 x.by_, .int .i64 x.hop, .int .i64 x.wh, .int .i64 x.party, .int .i64 x.a, .int .i64 x.b, .bool x.bad] 78) = w4 at *
      obtain ⟨r0, r1, r2, r3, r4, r5, r6, r7⟩ : w4.cell? ⟨wr.heap.size, 0, none⟩ = some (.int .u8 x.w) ∧ w4.cell? ⟨wr.heap.size, 1, none⟩ = some (.int .u8 x.by_) ∧ w4.cell? ⟨wr.heap.size, 2, none⟩ = some (.int .i64 x.hop) ∧ w4.cell? ⟨wr.heap.size, 3, none⟩ = some (.int .i64 x.wh) ∧ w4.cell? ⟨wr.heap.size, 4, none⟩ = some (.int .i64 x.party) ∧ w4.cell? ⟨wr.heap.size, 5, none⟩ = some (.int .i64 x.a) ∧ w4.cell? ⟨wr.heap.size, 6, none⟩ = some (.int .i64 x.b) ∧ w4.cell? ⟨wr.heap.size, 7, none⟩ = some (.bool x.bad) := ⟨block_cell HXb.out 0, block_cell HXb.out 1, block_cell HXb.out 2, block_cell HXb.out 3, block_cell HXb.out 4, block_cell HXb.out 5, block_cell HXb.out 6, block_cell HXb.out 7⟩
      go_upto_region 18 with (go_at_call 38; refine HDo.out.mono ?_; rintro e w5 ⟨rfl, a5, h1, h2, h3⟩; have HL5 := Lib.hid h1; have HS5 := Lib.hid (HS.out.trans h2); have HC5 := Lib.hid (HCb.out.trans (h3.same HS.out)); clear h1 h2 h3)
      clear r0 r1 r2 r3 r4 r5 r6 r7
      have hinv' := stA_inv HInv.out l (k + 1)
      have hl6 : LwAt w5 B Bb wob wb bk mb (stA y0 l (k + 1)).2.1 a5 (stA y0 l (k + 1)).2.2 Ak (N + 1) ck An N cn Af N cf (.slice Au N cu) := by rw [HSc.out]; exact HL5.out
      have hn6 : (stA y0 l (k + 1)).1 = now + x.by_ := by rw [HSc.out]
      clear HL5 HSc
      obtain ⟨s6, hs6⟩ : ∃ s, stA y0 l (k + 1) = s := ⟨_, rfl⟩
      rw [hs6] at hl6 hinv' hn6
      obtain ⟨now6, y6, L6⟩ := s6
      simp only at hl6 hinv' hn6
      have HSe := Lib.hid hs6; have Hn6 := Lib.hid hn6; have HL6 := Lib.hid hl6; have HInv' := Lib.hid hinv'
      clear hs6 hn6 hl6 hinv'
      have hs6 : sumW y6 (N + 1) = sumT Ps N := by have := HInv'.out.sum_all; rw [Hpl.out] at this; exact this
      have HS6 := Lib.hid hs6
      clear hs6
      go_upto_region 20 with (go_at_call 20; refine (last_any HL6.out).mono ?_; rw [hsub]; rintro e w6 ⟨rfl, rfl⟩)
      go_loopw [15, 73] (fun v i wr => ∃ (j : Nat), j ≤ N + 1 ∧ v = .int .i64 (sumW y6 j) ∧ i = .int .i64 j ∧ Hid (Below w5.heap.size w5 wr)) (fun _ i _ => N + 1 - (RowKit.intOf i).toNat)
      case atStart => exact ⟨0, by omega, rfl, rfl, Lib.hid (Below.refl _ _)⟩
      case round =>
       obtain ⟨j, hj, rfl, rfl, HB⟩ := hrel
       by_cases hjt : j < N + 1
       ·have hd2 : decide ((j : Int) < (N : Int) + 1) = true := decide_eq_true (by omega)
        have hji : (j : Int) < (N : Int) + 1 := by omega
        have HLj := Lib.hid (HL6.out.below HB.out)
        have hc0 := block_cell HLj.out.box 0
        simp at hc0
        have hwo := worth_any HLj.out.way HLj.out.ok HLj.out.fit (j : Int)
        have hsb := sumW_bound HLj.out.fit j (by omega)
        have hwb := worth_bound HLj.out.fit (j : Int)
        have HSs : Hid (sumW y6 (j + 1) = sumW y6 j + y6.worth j) := Lib.hid rfl
        generalize y6.worth (j : Int) = wk at *
        generalize sumW y6 j = sk at *
        have HWo := Lib.hid hwo
        clear hwo
        --<
        go_upto_region 23 with (go_at_call 21; refine HWo.out.mono ?_; rintro e w6 ⟨rfl, hb6⟩; have HB6 := Lib.hid (HB.out.trans (hb6.mono HB.out.size)); clear hb6)
        go_wp2
        go_roundw
        case rel => exact ⟨j + 1, hjt, by rw [HSs.out], by go_num, HB6⟩
        case measure => simp [RowKit.intOf]; omega
        -->
       ·have hjn : j = N + 1 := by omega
        subst hjn
        have hd2 : decide ((N : Int) + 1 < (N : Int) + 1) = false := decide_eq_false (by omega)
        have hn1 : ((N + 1 : Nat) : Int) = (N : Int) + 1 := by omega
        rw [hn1]
        clear hn1
        have HL7 := Lib.hid (HL6.out.below HB.out)
        have HC7 := Lib.hid (HC5.out.trans (.of_below (a := aW) (bk := bk) (mb := mb) HB.out))
        have HBg7 := Lib.hid (HB3.out.chg H3.out HC7.out)
        rw [HS6.out]
        go_upto_region 24 with fail
        have hnn : (sumT Ps N != sumT Ps N) = false := by simp
        have hc7 := block_cell HL7.out.box 0
        simp at hc7
        have hc16 := block_cell HL7.out.box 16
        simp at hc16
        go_upto_region 27 with fail
        have HUn : Hid (Below w.heap.size w wr) := Lib.hid (HC7.out.under Hb3.out hbk' hmb' fun j hf => by have := H3.out.way.F_ge hf; omega)
        obtain ⟨w7, hw7⟩ : ∃ w7 : World, w7 = wr := ⟨_, rfl⟩
        subst hw7
        go_loopw [93] (fun i wr => ∃ (j : Nat), j ≤ N ∧ i = .int .i64 j ∧ Hid (Below w7.heap.size w7 wr)) (fun i _ => N - (RowKit.intOf i).toNat)
        case atStart => exact ⟨0, by omega, rfl, Lib.hid (Below.refl _ _)⟩
        case round =>
         obtain ⟨j, hj, rfl, HBj⟩ := hrel
         by_cases hjt : j < N
         ·have hd3 : decide ((j : Int) < (N : Int)) = true := decide_eq_true (by omega)
          have hji : (j : Int) < (N : Int) := by omega
          have HLj := Lib.hid (HL7.out.below HBj.out)
          have hjl : j < Ps.length := by have := Hpl.out; omega
          obtain ⟨qb, qo, hA, hqb, hqr⟩ := (HBg7.out.below HBj.out).range Hpl.out hjt
          subst hA
          have hfq := HFit.out _ (getD_memP hjl)
          have htq := HInv'.out.total hjl hfq.2 hfq.1
          have hih : y6.isHop (j : Int) = true := by rw [HInv'.out.isHop]; simp; omega
          have hpo : y6.puO (j : Int) = y6.pu.getD j default := by unfold Wy.puO; rw [hih]; rfl
          have HPo : Hid (y6.puO (j : Int) = y6.pu.getD j default) := Lib.hid hpo
          have HIh := Lib.hid hih
          clear hih hpo
          generalize y6.pu.getD j default = q6 at *
          generalize Ps.getD j default = q0 at *
          have HQr := Lib.hid hqr; have HT1 := Lib.hid htq.1; have HT2 := Lib.hid htq.2; have HQh := Lib.hid hfq.1
          clear hqr htq hfq
          have HX : Hid ((wr.alloc (.cells #[.int .u8 q0.nm.x0, .int .u8 q0.nm.x1, .int .u8 q0.nm.x2, .int .u8 q0.nm.x3, .int .u8 q0.nm.x4, .int .u8 q0.nm.x5, .int .u8 q0.nm.x6, .int .u8 q0.nm.x7, .int .i64 q0.no, .int .i64 q0.h0, .int .i64 q0.h1, .slice none 0 0] 85)).heap[wr.heap.size]? = some (.cells #[.int .u8 q0.nm.x0, .int .u8 q0.nm.x1, .int .u8 q0.nm.x2, .int .u8 q0.nm.x3, .int .u8 q0.nm.x4, .int .u8 q0.nm.x5, .int .u8 q0.nm.x6, .int .u8 q0.nm.x7, .int .i64 q0.no, .int .i64 q0.h0, .int .i64 q0.h1, .slice none 0 0] 85 (0, 0))) := heap_alloc_new _ _
          have hb8 := below_one wr (.cells #[.int .u8 q0.nm.x0, .int .u8 q0.nm.x1, .int .u8 q0.nm.x2, .int .u8 q0.nm.x3, .int .u8 q0.nm.x4, .int .u8 q0.nm.x5, .int .u8 q0.nm.x6, .int .u8 q0.nm.x7, .int .i64 q0.no, .int .i64 q0.h0, .int .i64 q0.h1, .slice none 0 0] 85)
          have HB8 := Lib.hid (HBj.out.trans (hb8.mono HBj.out.size))
          clear hb8
          go_upto_region 28 with fail
          refine wp_region_list ?_
          refine wpList_value (.int .i64 j) (by kernel_rfl) (by go_simp) ?_
          simp only [Act.put, sA, sZ, sS]
          refine wpList_value (.pointer (some ⟨qb, qo + j * 12, none⟩)) (by kernel_rfl) (by go_simp) ?_
          simp only [Act.put, sA, sZ, sS]
          refine wpList_load_mid (by rfl) 85 _ (by rfl) qb (qo + j * 12) (by rfl) [.int .u8 q0.nm.x0, .int .u8 q0.nm.x1, .int .u8 q0.nm.x2, .int .u8 q0.nm.x3, .int .u8 q0.nm.x4, .int .u8 q0.nm.x5, .int .u8 q0.nm.x6, .int .u8 q0.nm.x7, .int .i64 q0.no, .int .i64 q0.h0, .int .i64 q0.h1, .slice none 0 0] _ HQr.out Tryz.underlying85 rfl (by kernel_rfl) ?_
          simp only [Act.put, sA, sZ, sS]
          go_upto_region 29 with fail
          generalize wr.alloc (.cells #[.int .u8 q0.nm.x0, .int .u8 q0.nm.x1, .int .u8 q0.nm.x2, .int .u8 q0.nm.x3, .int .u8 q0.nm.x4, .int .u8 q0.nm.x5, .int .u8 q0.nm.x6, .int .u8 q0.nm.x7, .int .i64 q0.no, .int .i64 q0.h0, .int .i64 q0.h1, .slice none 0 0] 85) = w8 at *
          have HLk := Lib.hid (HL7.out.below HB8.out)
          have hc8 := block_cell HLk.out.box 0
          simp at hc8
          have hpu := purse_any HLk.out.way (j : Int)
          rw [HPo.out, HIh.out] at hpu
          have HPu := Lib.hid hpu
          clear hpu
          go_upto_region 30 with (go_at_call 39; refine HPu.out.mono ?_; rintro e w9 ⟨A9, n9, c9, rfl, hown, hn9, hb9⟩; have HOw := Lib.hid hown; have HB9 := Lib.hid (HB8.out.trans (hb9.mono HB8.out.size)); have HX9 := Lib.hid (block_below HX.out hb9 (block_lt HX.out)); clear hb9 hown)
          generalize hw10 : World.alloc w9 _ = w10 at *
          have HY10 : Hid (w10.heap[w9.heap.size]? = some (.cells #[.int .u8 q6.nm.x0, .int .u8 q6.nm.x1, .int .u8 q6.nm.x2, .int .u8 q6.nm.x3, .int .u8 q6.nm.x4, .int .u8 q6.nm.x5, .int .u8 q6.nm.x6, .int .u8 q6.nm.x7, .int .i64 q6.no, .int .i64 q6.h0, .int .i64 q6.h1, .slice A9 n9 c9] 85 (0, 0))) := Lib.hid (by rw [← hw10]; exact heap_alloc_new _ _)
          have hb10 : Below w9.heap.size w9 w10 := by rw [← hw10]; exact below_one _ _
          have HX10 := Lib.hid (block_below HX9.out hb10 (block_lt HX9.out))
          have HB10 := Lib.hid (HB9.out.trans (hb10.mono HB9.out.size))
          have HAt6 : Hid (PuV.At q6 A9 n9 c9 w10) := Lib.hid (PuV.At.up ⟨Rd.of_own HOw.out, own_cap HOw.out, hn9⟩ hb10)
          clear hw10 hb10
          have HTa : Hid (∀ v, Below w10.heap.size w10 v → Calls Tryz.prog 40 #[.agg #[.int .u8 q6.nm.x0, .int .u8 q6.nm.x1, .int .u8 q6.nm.x2, .int .u8 q6.nm.x3, .int .u8 q6.nm.x4, .int .u8 q6.nm.x5, .int .u8 q6.nm.x6, .int .u8 q6.nm.x7, .int .i64 q6.no, .int .i64 q6.h0, .int .i64 q6.h1, .slice A9 n9 c9]] v fun e w' => e = .returned (.int .i64 q0.total) ∧ Below v.heap.size v w') := Lib.hid fun v hv => by
           have := total_any q6 A9 n9 c9 v (HAt6.out.up hv)
           rw [HT1.out] at this
           exact this
          have HTb : Hid (∀ v, Below w10.heap.size w10 v → Calls Tryz.prog 40 #[.agg #[.int .u8 q0.nm.x0, .int .u8 q0.nm.x1, .int .u8 q0.nm.x2, .int .u8 q0.nm.x3, .int .u8 q0.nm.x4, .int .u8 q0.nm.x5, .int .u8 q0.nm.x6, .int .u8 q0.nm.x7, .int .i64 q0.no, .int .i64 q0.h0, .int .i64 q0.h1, .slice none 0 0]] v fun e w' => e = .returned (.int .i64 q0.total) ∧ Below v.heap.size v w') := Lib.hid fun v _ => total_any q0 none 0 0 v (purse_at_nil HQh.out v)
          have hnm := HT2.out
          clear HT1 HT2 HAt6 HOw
          generalize q0.total = tt at *
          generalize q6.nm = d6 at *
          generalize q0.nm = d at *
          subst hnm
          have htt : (tt != tt) = false := by simp
          have hly := block_lt HY10.out; have hlx := block_lt HX10.out
          refine wp_region_held_drew (S := fun w' => Below w10.heap.size w10 w') (by kernel_rfl) (Below.refl _ _).drew (fun hHeld => ?_)
          refine takeK 0 (some 107) (v := ?_) rfl (by kernel_rfl) (by kernel_rfl) (fun _ _ _ => id) (Or.inl ⟨by kernel_rfl, ?hy⟩) (by assumption) ?_
          case hy => intro w' h; clear h; go_simp; try with_reducible rfl
          simp only [Act.put, sA, sZ, sS]
          refine takeK 1 (some 108) (v := ?_) rfl (by kernel_rfl) (by kernel_rfl) (fun _ _ _ => id) (Or.inl ⟨by kernel_rfl, ?hy⟩) (by assumption) ?_
          case hy => intro w' h; clear h; go_simp; try with_reducible rfl
          simp only [Act.put, sA, sZ, sS]
          refine takeK 2 (some 109) (v := ?_) rfl (by kernel_rfl) (by kernel_rfl) (fun _ _ _ => id) (Or.inl ⟨by kernel_rfl, ?hy⟩) (by assumption) ?_
          case hy => intro w' h; clear h; go_simp; try with_reducible rfl
          simp only [Act.put, sA, sZ, sS]
          refine takeK 3 (some 110) (v := .agg ([.int .u8 d6.x0, .int .u8 d6.x1, .int .u8 d6.x2, .int .u8 d6.x3, .int .u8 d6.x4, .int .u8 d6.x5, .int .u8 d6.x6, .int .u8 d6.x7, .int .i64 q6.no, .int .i64 q6.h0, .int .i64 q6.h1, .slice A9 n9 c9] : List Value).toArray) rfl (by kernel_rfl) (by kernel_rfl) (fun _ _ _ => id) (yieldsIf_load_mid (by kernel_rfl) 85 _ (by rfl) (w9.heap.size) (0) (by rfl) [.int .u8 d6.x0, .int .u8 d6.x1, .int .u8 d6.x2, .int .u8 d6.x3, .int .u8 d6.x4, .int .u8 d6.x5, .int .u8 d6.x6, .int .u8 d6.x7, .int .i64 q6.no, .int .i64 q6.h0, .int .i64 q6.h1, .slice A9 n9 c9] _ (fun w' hw' => range_all (block_below HY10.out hw' hly)) Tryz.underlying85 rfl (by kernel_rfl)) (by assumption) ?_
          simp only [Act.put, sA, sZ, sS]
          refine takeK 5 (some 112) (v := .agg ([.int .u8 d6.x0, .int .u8 d6.x1, .int .u8 d6.x2, .int .u8 d6.x3, .int .u8 d6.x4, .int .u8 d6.x5, .int .u8 d6.x6, .int .u8 d6.x7, .int .i64 q0.no, .int .i64 q0.h0, .int .i64 q0.h1, .slice none 0 0] : List Value).toArray) rfl (by kernel_rfl) (by kernel_rfl) (fun _ _ _ => id) (yieldsIf_load_mid (by kernel_rfl) 85 _ (by rfl) (wr.heap.size) (0) (by rfl) [.int .u8 d6.x0, .int .u8 d6.x1, .int .u8 d6.x2, .int .u8 d6.x3, .int .u8 d6.x4, .int .u8 d6.x5, .int .u8 d6.x6, .int .u8 d6.x7, .int .i64 q0.no, .int .i64 q0.h0, .int .i64 q0.h1, .slice none 0 0] _ (fun w' hw' => range_all (block_below HX10.out hw' hlx)) Tryz.underlying85 rfl (by kernel_rfl)) (by assumption) ?_
          simp only [Act.put, sA, sZ, sS]
          refine wpAnyH_ready (rs := [4]) (by kernel_rfl) (by simp) ?_
          refine AllReadyH.cons rfl (fun K hK => ?_) AllReadyH.nil
          rw [if_pos (by kernel_rfl)]
          try simp only [List.getElem_toArray, List.getElem_cons_zero, List.getElem_cons_succ]
          go_simp
          go_at_call 40
          refine (HTa.out _ (Below.refl _ _).drew).mono ?_
          rintro e z1 ⟨rfl, hb1⟩
          have HU1 : Hid (Below w10.heap.size w10 z1) := Lib.hid ((Below.refl _ _).drew.trans hb1)
          clear hb1
          refine hK.out _ _ HU1.out (fun _ => ?_)
          clear hK K
          try simp only [Act.put, sA, sZ, sS]
          refine wpAnyH_ready (rs := [6]) (by kernel_rfl) (by simp) ?_
          refine AllReadyH.cons rfl (fun K hK => ?_) AllReadyH.nil
          rw [if_pos (by kernel_rfl)]
          try simp only [List.getElem_toArray, List.getElem_cons_zero, List.getElem_cons_succ]
          go_simp
          go_at_call 40
          refine (HTb.out _ HU1.out).mono ?_
          rintro e z2 ⟨rfl, hb2⟩
          have HU2 := Lib.hid (HU1.out.trans (hb2.mono HU1.out.size))
          clear hb2
          refine hK.out _ _ HU2.out (fun _ => ?_)
          clear hK K
          try simp only [Act.put, sA, sZ, sS]
          refine takeK 7 (some 114) (v := ?_) rfl (by kernel_rfl) (by kernel_rfl) (fun _ _ _ => id) (Or.inl ⟨by kernel_rfl, ?hy⟩) (by assumption) ?_
          case hy => intro w' h; clear h; go_simp; try with_reducible rfl
          simp only [Act.put, sA, sZ, sS]
          refine takeK 8 (some 115) (v := ?_) rfl (by kernel_rfl) (by kernel_rfl) (fun _ _ _ => id) (Or.inl ⟨by kernel_rfl, ?hy⟩) (by assumption) ?_
          case hy => intro w' h; clear h; go_simp; try with_reducible rfl
          simp only [Act.put, sA, sZ, sS]
          refine takeK 9 (some 116) (v := ?_) rfl (by kernel_rfl) (by kernel_rfl) (fun _ _ _ => id) (Or.inl ⟨by kernel_rfl, ?hy⟩) (by assumption) ?_
          case hy => intro w' h; clear h; go_simp; try with_reducible rfl
          simp only [Act.put, sA, sZ, sS]
          refine takeK 10 (some 117) (v := ?_) rfl (by kernel_rfl) (by kernel_rfl) (fun _ _ _ => id) (Or.inl ⟨by kernel_rfl, ?hy⟩) (by assumption) ?_
          case hy => intro w' h; clear h; go_simp; try with_reducible rfl
          simp only [Act.put, sA, sZ, sS]
          refine takeK 11 (some 118) (v := .agg ([.int .u8 d6.x0, .int .u8 d6.x1, .int .u8 d6.x2, .int .u8 d6.x3, .int .u8 d6.x4, .int .u8 d6.x5, .int .u8 d6.x6, .int .u8 d6.x7] : List Value).toArray) rfl (by kernel_rfl) (by kernel_rfl) (fun _ _ _ => id) (yieldsIf_load_mid (by kernel_rfl) 27 _ (by rfl) (w9.heap.size) (0) (by rfl) [.int .u8 d6.x0, .int .u8 d6.x1, .int .u8 d6.x2, .int .u8 d6.x3, .int .u8 d6.x4, .int .u8 d6.x5, .int .u8 d6.x6, .int .u8 d6.x7] _ (fun w' hw' => nm_range (block_below HY10.out hw' hly)) Tryz.underlying27 rfl (by kernel_rfl)) (by assumption) ?_
          simp only [Act.put, sA, sZ, sS]
          refine takeK 12 (some 119) (v := ?_) rfl (by kernel_rfl) (by kernel_rfl) (fun _ _ _ => id) (Or.inl ⟨by kernel_rfl, ?hy⟩) (by assumption) ?_
          case hy => intro w' h; clear h; go_simp; try with_reducible rfl
          simp only [Act.put, sA, sZ, sS]
          refine takeK 13 (some 120) (v := .agg ([.int .u8 d6.x0, .int .u8 d6.x1, .int .u8 d6.x2, .int .u8 d6.x3, .int .u8 d6.x4, .int .u8 d6.x5, .int .u8 d6.x6, .int .u8 d6.x7] : List Value).toArray) rfl (by kernel_rfl) (by kernel_rfl) (fun _ _ _ => id) (yieldsIf_load_mid (by kernel_rfl) 27 _ (by rfl) (wr.heap.size) (0) (by rfl) [.int .u8 d6.x0, .int .u8 d6.x1, .int .u8 d6.x2, .int .u8 d6.x3, .int .u8 d6.x4, .int .u8 d6.x5, .int .u8 d6.x6, .int .u8 d6.x7] _ (fun w' hw' => nm_range (block_below HX10.out hw' hlx)) Tryz.underlying27 rfl (by kernel_rfl)) (by assumption) ?_
          simp only [Act.put, sA, sZ, sS]
          refine takeK 14 (some 121) (v := .bool false) rfl (by kernel_rfl) (by kernel_rfl) (fun _ _ _ => id) (Or.inl ⟨by kernel_rfl, fun w' _ => exec_binV (by rfl) (by rfl) (by rfl) ((dig_guard d6) _ _ w') ((dig_refl d6) w')⟩) (by assumption) ?_
          simp only [Act.put, sA, sZ, sS]
          refine takeK 15 (some 122) (v := ?_) rfl (by kernel_rfl) (by kernel_rfl) (fun _ _ _ => id) (Or.inl ⟨by kernel_rfl, ?hy⟩) (by assumption) ?_
          case hy => intro w' h; clear h; go_simp; try with_reducible rfl
          simp only [Act.put, sA, sZ, sS]
          refine wpAnyH_done (by kernel_rfl) ?_ _
          have HB11 := Lib.hid (HB10.out.trans (HU2.out.mono HB10.out.size))
          go_wp2
          go_roundw
          case rel => exact ⟨j + 1, hjt, by go_num, HB11⟩
          case measure => simp [RowKit.intOf]; omega
         ·have hjn : j = N := by omega
          subst hjn
          have hd3 : decide ((j : Int) < (j : Int)) = false := decide_eq_false (by omega)
          have HL9 := Lib.hid (HL7.out.below HBj.out)
          have HC9 := Lib.hid (HC7.out.trans (.of_below (a := aW) (bk := bk) (mb := mb) HBj.out))
          go_wp2_with fail
          go_roundw
          case rel => exact ⟨k + 1, a5, hkl, by rw [HSe.out, Hn6.out], by go_num, by rw [HSe.out]; exact HL9.out, HS5, HC9⟩
          case measure => simp [RowKit.intOf]; omega
     ·obtain rfl : k = nl := by omega
      have hd1 : decide ((k : Int) < (k : Int)) = false := decide_eq_false (by omega)
      have hinv' := stA_inv HInv.out l k
      have hlen := stA_len y0 l k
      generalize stA y0 l k = st at *
      obtain ⟨now, yk, Lk⟩ := st
      simp only at hinv' HL hlen
      have hz0 := hinv'.worth_out (j := -1) (.inl (by omega))
      have hz1 := hinv'.worth_out (j := (N : Int) + 1) (.inr (by have := Hpl.out; omega))
      have HWa : Hid (∀ v, Below wr.heap.size wr v → Calls Tryz.prog 21 #[.pointer (some ⟨wb, 0, none⟩), .int .i64 (-1)] v fun e w' => e = .returned (.int .i64 0) ∧ Below v.heap.size v w') := Lib.hid fun v hv => by
       have hl := HL.out.below hv
       have := worth_any hl.way hl.ok hl.fit (-1)
       rw [hz0] at this
       exact this
      have HWb : Hid (∀ v, Below wr.heap.size wr v → Calls Tryz.prog 21 #[.pointer (some ⟨wb, 0, none⟩), .int .i64 ((N : Int) + 1)] v fun e w' => e = .returned (.int .i64 0) ∧ Below v.heap.size v w') := Lib.hid fun v hv => by
       have hl := HL.out.below hv
       have := worth_any hl.way hl.ok hl.fit ((N : Int) + 1)
       rw [hz1] at this
       exact this
      clear hz0 hz1 hinv'
      have hc0 : ∀ w', Below wr.heap.size wr w' → w'.cell? ⟨wob, 0, none⟩ = some (.pointer (some ⟨wb, 0, none⟩)) := fun w' hw' => by have := block_cell (HL.out.below hw').box 0; simpa using this
      have hwN : IntKind.i64.wrap ((N : Int) + 1) = (N : Int) + 1 := wrapI_id (by omega) (by omega)
      go_upto_region 34 with fail
      refine wp_region_held_drew (S := fun w' => Below wr.heap.size wr w') (by kernel_rfl) (Below.refl _ _).drew (fun hHeld => ?_)
      refine takeK 0 (some 125) (v := ?_) rfl (by kernel_rfl) (by kernel_rfl) (fun _ _ _ => id) (Or.inl ⟨by kernel_rfl, ?hy⟩) (by assumption) ?_
      case hy => intro w' h; clear h; go_simp; try with_reducible rfl
      simp only [Act.put, sA, sZ, sS]
      refine takeK 1 (some 126) (v := ?_) rfl (by kernel_rfl) (by kernel_rfl) (fun _ _ _ => id) (Or.inl ⟨by kernel_rfl, ?hy⟩) (by assumption) ?_
      case hy => intro w' h; clear h; go_simp; try with_reducible rfl
      simp only [Act.put, sA, sZ, sS]
      refine takeK 2 (some 127) (v := ?_) rfl (by kernel_rfl) (by kernel_rfl) (fun _ _ _ => id) (Or.inl ⟨by kernel_rfl, ?hy⟩) (by assumption) ?_
      case hy => intro w' h; clear h; go_simp; try with_reducible rfl
      simp only [Act.put, sA, sZ, sS]
      refine takeK 3 (some 128) (v := ?_) rfl (by kernel_rfl) (by kernel_rfl) (fun _ _ _ => id) (Or.inl ⟨by kernel_rfl, ?hy⟩) (by assumption) ?_
      case hy => intro w' h; have hx := hc0 w' h; clear h; go_simp; try with_reducible rfl
      simp only [Act.put, sA, sZ, sS]
      refine wpAnyH_ready (rs := [4]) (by kernel_rfl) (by simp) ?_
      refine AllReadyH.cons rfl (fun K hK => ?_) AllReadyH.nil
      rw [if_pos (by kernel_rfl)]
      try simp only [List.getElem_toArray, List.getElem_cons_zero, List.getElem_cons_succ]
      go_simp
      go_at_call 21
      refine (HWa.out _ (Below.refl _ _).drew).mono ?_
      rintro e z1 ⟨rfl, hb1⟩
      have HU1 : Hid (Below wr.heap.size wr z1) := Lib.hid ((Below.refl _ _).drew.trans hb1)
      clear hb1
      refine hK.out _ _ HU1.out (fun _ => ?_)
      clear hK K
      try simp only [Act.put, sA, sZ, sS]
      refine takeK 5 (some 130) (v := ?_) rfl (by kernel_rfl) (by kernel_rfl) (fun _ _ _ => id) (Or.inl ⟨by kernel_rfl, ?hy⟩) (by assumption) ?_
      case hy => intro w' h; clear h; go_simp; try with_reducible rfl
      simp only [Act.put, sA, sZ, sS]
      refine takeK 6 (some 131) (v := ?_) rfl (by kernel_rfl) (by kernel_rfl) (fun _ _ _ => id) (Or.inl ⟨by kernel_rfl, ?hy⟩) (by assumption) ?_
      case hy => intro w' h; clear h; go_simp; try with_reducible rfl
      simp only [Act.put, sA, sZ, sS]
      refine takeK 7 (some 132) (v := ?_) rfl (by kernel_rfl) (by kernel_rfl) (fun _ _ _ => id) (Or.inl ⟨by kernel_rfl, ?hy⟩) (by assumption) ?_
      case hy => intro w' h; clear h; go_simp; try with_reducible rfl
      simp only [Act.put, sA, sZ, sS]
      refine takeK 8 (some 133) (v := ?_) rfl (by kernel_rfl) (by kernel_rfl) (fun _ _ _ => id) (Or.inl ⟨by kernel_rfl, ?hy⟩) (by assumption) ?_
      case hy => intro w' h; clear h; go_simp; try with_reducible rfl
      simp only [Act.put, sA, sZ, sS]
      refine takeK 9 (some 134) (v := ?_) rfl (by kernel_rfl) (by kernel_rfl) (fun _ _ _ => id) (Or.inl ⟨by kernel_rfl, ?hy⟩) (by assumption) ?_
      case hy => intro w' h; clear h; go_simp; try with_reducible rfl
      simp only [Act.put, sA, sZ, sS]
      refine takeK 10 (some 135) (v := ?_) rfl (by kernel_rfl) (by kernel_rfl) (fun _ _ _ => id) (Or.inl ⟨by kernel_rfl, ?hy⟩) (by assumption) ?_
      case hy => intro w' h; have hx := hc0 w' h; clear h; go_simp; try with_reducible rfl
      simp only [Act.put, sA, sZ, sS]
      refine takeK 11 (some 136) (v := ?_) rfl (by kernel_rfl) (by kernel_rfl) (fun _ _ _ => id) (Or.inl ⟨by kernel_rfl, ?hy⟩) (by assumption) ?_
      case hy => intro w' h; clear h; go_simp; try with_reducible rfl
      simp only [Act.put, sA, sZ, sS]
      refine wpAnyH_ready (rs := [12]) (by kernel_rfl) (by simp) ?_
      refine AllReadyH.cons rfl (fun K hK => ?_) AllReadyH.nil
      rw [if_pos (by kernel_rfl)]
      try simp only [List.getElem_toArray, List.getElem_cons_zero, List.getElem_cons_succ]
      go_simp
      go_at_call 20
      refine (last_any (HL.out.below HU1.out)).mono ?_
      rw [hsub]
      rintro e z2 ⟨rfl, rfl⟩
      refine hK.out _ _ HU1.out (fun _ => ?_)
      clear hK K
      try simp only [Act.put, sA, sZ, sS]
      refine takeK 13 (some 138) (v := ?_) rfl (by kernel_rfl) (by kernel_rfl) (fun _ _ _ => id) (Or.inl ⟨by kernel_rfl, ?hy⟩) (by assumption) ?_
      case hy => intro w' h; clear h; go_simp; try with_reducible rfl
      simp only [Act.put, sA, sZ, sS]
      refine wpAnyH_ready (rs := [14]) (by kernel_rfl) (by simp) ?_
      refine AllReadyH.cons rfl (fun K hK => ?_) AllReadyH.nil
      rw [if_pos (by kernel_rfl)]
      try simp only [List.getElem_toArray, List.getElem_cons_zero, List.getElem_cons_succ]
      go_simp
      go_at_call 21
      refine (HWb.out _ HU1.out).mono ?_
      rintro e z3 ⟨rfl, hb3⟩
      have HU3 := Lib.hid (HU1.out.trans (hb3.mono HU1.out.size))
      clear hb3
      refine hK.out _ _ HU3.out (fun _ => ?_)
      clear hK K
      try simp only [Act.put, sA, sZ, sS]
      refine takeK 15 (some 140) (v := ?_) rfl (by kernel_rfl) (by kernel_rfl) (fun _ _ _ => id) (Or.inl ⟨by kernel_rfl, ?hy⟩) (by assumption) ?_
      case hy => intro w' h; clear h; go_simp; try with_reducible rfl
      simp only [Act.put, sA, sZ, sS]
      refine takeK 16 (some 141) (v := ?_) rfl (by kernel_rfl) (by kernel_rfl) (fun _ _ _ => id) (Or.inl ⟨by kernel_rfl, ?hy⟩) (by assumption) ?_
      case hy => intro w' h; clear h; go_simp; try with_reducible rfl
      simp only [Act.put, sA, sZ, sS]
      refine takeK 17 (some 8) (v := ?_) rfl (by kernel_rfl) (by kernel_rfl) (fun _ _ _ => id) (Or.inl ⟨by kernel_rfl, ?hy⟩) (by assumption) ?_
      case hy => intro w' h; clear h; go_simp; try with_reducible rfl
      simp only [Act.put, sA, sZ, sS]
      refine wpAnyH_done (by kernel_rfl) ?_ _
      have HE := Lib.hid (HBw.out.trans (HU3.out.mono HBw.out.size))
      go_wp2
      go_ret
      exact ⟨rfl, HE.out⟩
 ·have hbig : (decide (nl ≤ 60) && !decide ((10 : Int) < (nh : Int))) = false := by
   simp only [Bool.and_eq_false_iff, decide_eq_false_iff_not, Bool.not_eq_false', decide_eq_true_eq]
   omega
  go_enter Tryz.func7, Tryz.ntmps7
  go_upto_region 1 with fail
  generalize w.alloc (.cells #[.int .u8 a, .int .u8 b] 45) = w0 at *
  have HK : Hid (∀ v, Calls Tryz.prog 14 #[] v fun e w' => e = .returned (.bool true) ∧ Below v.heap.size v w') := Lib.hid fun v => (known_any v).mono fun e w' h => h
  cases h60 : decide (nl ≤ 60) with
  | false =>
   go_upto_region 2 with (first | (go_at_call 14; refine (HK.out w0).mono ?_; rintro e w1 ⟨rfl, hb1⟩; have Hb1 := Lib.hid (Hb0.out.trans (hb1.mono Hb0.out.size)); clear hb1) | (go_at_call 35; refine (few_any Al nl cl w1).mono ?_; rw [h60]; rintro e w2 ⟨rfl, rfl⟩))
   go_wp2_with (go_at_call 14; refine (HK.out _).mono ?_; rintro e w3 ⟨rfl, hb3⟩; have Hb3 := Lib.hid (Hb1.out.trans (hb3.mono Hb1.out.size)); clear hb3)
   go_ret
   exact ⟨rfl, Hb3.out⟩
  | true =>
   have hd11 : decide ((10 : Int) < (nh : Int)) = true := by
    rw [h60] at hbig
    simpa using hbig
   have hn10 : (10 : Int) < (nh : Int) := of_decide_eq_true hd11
   go_upto_region 2 with (first | (go_at_call 14; refine (HK.out w0).mono ?_; rintro e w1 ⟨rfl, hb1⟩; have Hb1 := Lib.hid (Hb0.out.trans (hb1.mono Hb0.out.size)); clear hb1) | (go_at_call 35; refine (few_any Al nl cl w1).mono ?_; rw [h60]; rintro e w2 ⟨rfl, rfl⟩))
   go_wp2_with (go_at_call 14; refine (HK.out _).mono ?_; rintro e w3 ⟨rfl, hb3⟩; have Hb3 := Lib.hid (Hb1.out.trans (hb3.mono Hb1.out.size)); clear hb3)
   go_ret
   exact ⟨rfl, Hb3.out⟩
end
end Go.Proofs.YthhiookcknnmdaaGreat
