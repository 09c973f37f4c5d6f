/- The walk of VirtualHub. Nothing is asked of the world but the arguments' bounds. -/
import Derived.Test.YthhiookcknnmdaaGreatJoinUbb
import Derived.Test.YthhiookcknnmdaaGreatJoinUaj
import Derived.Test.YthhiookcknnmdaaGreatJoinUba
import Derived.Test.YthhiookcknnmdaaGreatJoinUbc
import Derived.Test.YthhiookcknnmdaaGreatJoinUbd
import Derived.Test.YthhiookcknnmdaaGreatJoinUbe
namespace Go.Proofs.YthhiookcknnmdaaGreat
open Go.RowKit Go.Lib
theorem ac_cells {w : World} {b : Nat} {x : Ac} (h : w.heap[b]? = some (.cells #[.int .u8 x.w, .int .u8 x.by_, .int .i64 x.hop, .int .i64 x.wh, .int .i64 x.party, .int .i64 x.a, .int .i64 x.b, .bool x.bad] 78 (0, 0))) : w.cell? ⟨b, 0, none⟩ = some (.int .u8 x.w) ∧ w.cell? ⟨b, 1, none⟩ = some (.int .u8 x.by_) ∧ w.cell? ⟨b, 2, none⟩ = some (.int .i64 x.hop) ∧ w.cell? ⟨b, 3, none⟩ = some (.int .i64 x.wh) ∧ w.cell? ⟨b, 4, none⟩ = some (.int .i64 x.party) ∧ w.cell? ⟨b, 5, none⟩ = some (.int .i64 x.a) ∧ w.cell? ⟨b, 6, none⟩ = some (.int .i64 x.b) ∧ w.cell? ⟨b, 7, none⟩ = some (.bool x.bad) :=
 ⟨block_cell h 0, block_cell h 1, block_cell h 2, block_cell h 3, block_cell h 4, block_cell h 5, block_cell h 6, block_cell h 7⟩
section
set_option maxRecDepth 100000 in
set_option maxHeartbeats 16000000 in
theorem vhub_any (hops a b : Nat) (hv : List Nat) (which : Nat) (hwo : which < 256) (Ah : Option Addr) (nh ch : Nat) (Al : Option Addr) (nl cl : Nat) (l : List Ac) (w : World) (hh : hops < 256) (ha : a < 256) (hb : b < 256) (hr : Rd w w.heap.size 1 Ah nh (bv hv)) (hv2 : ∀ x ∈ hv, x < 256) (hrl : Rd w w.heap.size 8 Al nl (flatC l)) (hlo : ∀ x ∈ l, x.ok) :
  Calls Tryz.prog 6 #[.int .u8 hops, .agg #[.int .u8 a, .int .u8 b], .slice Ah nh ch, .slice Al nl cl, .int .u8 which] w fun e w' => e = .returned (.bool true) ∧ Below w.heap.size w w' := by
 have HX0 : Hid ((w.alloc (.cells #[.int .u8 a, .int .u8 b] 45)).heap[w.heap.size]? = some (.cells #[.int .u8 a, .int .u8 b] 45 (0, 0))) := heap_alloc_new _ _
 have Hb0 := Lib.hid (below_one w (.cells #[.int .u8 a, .int .u8 b] 45))
 have HR := Lib.hid hr; have HV := Lib.hid hv2; have HRl := Lib.hid hrl; have HLo := Lib.hid hlo
 have Hll : Hid (l.length = nl) := Lib.hid hrl.clen
 clear hr hv2 hrl hlo
 by_cases hgo : nl ≤ 60 ∧ nh ≤ 10
 ·obtain ⟨hfew, hhv⟩ := hgo
  have hd60 : decide (nl ≤ 60) = true := decide_eq_true hfew
  have hd10 : decide ((nh : Int) > 10) = false := decide_eq_false (by omega)
  have hd11 : decide ((10 : Int) < (nh : Int)) = false := decide_eq_false (by omega)
  go_enter Tryz.func6, Tryz.ntmps6
  go_upto_region 1 with fail
  generalize w.alloc (.cells #[.int .u8 a, .int .u8 b] 45) = w0 at *
  go_upto_region 3 with (first | (go_at_call 14; refine (known_any w0).mono ?_; rintro e w1 ⟨rfl, hb1⟩; have Hb1 := Lib.hid (Hb0.out.trans (hb1.mono Hb0.out.size)); have HX1 := Lib.hid (block_below HX0.out hb1 (block_lt HX0.out)); clear hb1; have x0 := block_cell HX1.out 0; have x1 := block_cell HX1.out 1; simp at x0 x1) | (go_at_call 35; refine (few_any Al nl cl w1).mono ?_; rw [hd60]; rintro e w2 ⟨rfl, rfl⟩))
  have hbg := lbegin_any hops a b hv Ah nh ch w1 hh ha hb ((HR.out.below Hb1.out (Nat.le_refl _)).more Hb1.out.size) (by omega) HV.out
  obtain ⟨hn1, hn4⟩ := bgN_in hops
  have hinv : WInv (bgPl (bgN hops) a b) (bgPs a b hv (bgN hops)) (bgY (bgN hops) a b hv) := WInv.begin _ _ (bgPs_fit ha hb HV.out _)
  have hpl := bgPs_len a b hv (bgN hops)
  have HFit := Lib.hid (bgPs_fit ha hb HV.out (bgN hops))
  have HHp : Hid (∀ party, 1 ≤ party → party < bgN hops → HubP (bgPl (bgN hops) a b) (bgPs a b hv (bgN hops)) party) := Lib.hid fun party h1 h2 => hub_plan hn1 hn4 ha hb hv h1 h2
  have HSb : Hid (∀ party (now : Int), party ≤ bgN hops → HubI (bgPl (bgN hops) a b) (bgPs a b hv (bgN hops)) party now (bgY (bgN hops) a b hv) []) := Lib.hid fun party now hs => .begin hinv (by show party < (bgKs (bgN hops)).length; rw [bgKs_len]; omega) now
  have HZz : Hid (∀ i k, (bgY (bgN hops) a b hv).atI i k = 0) := Lib.hid fun i k => by simp [bgY, Wy.begin, Wy.atI, alGet]
  generalize bgN hops = N at *
  generalize bgY N a b hv = y0 at *
  generalize bgPs a b hv N = Ps at *
  generalize bgPl N a b = p at *
  have HBg := Lib.hid hbg; have HInv := Lib.hid hinv; have Hpl := Lib.hid hpl
  clear hbg hinv hpl
  go_upto_region 4 with (go_at_call 19; refine HBg.out.mono ?_; rintro e w2 ⟨wob, B, Bb, wb, bk, mb, aW, Ak, ck, An, cn, Af, cf, Au, cu, rfl, hL, hB, hb2, hbk, hmb, hBB⟩)
  have H2 := Lib.hid hL; have HB2 := Lib.hid hB; have Hb2 := Lib.hid (Hb1.out.trans (hb2.mono Hb1.out.size))
  have hbk' : w.heap.size ≤ bk := by have := Hb1.out.size; omega
  have hmb' : w.heap.size ≤ mb := by have := Hb1.out.size; omega
  have hBB' : w.heap.size ≤ B := by have := Hb1.out.size; omega
  clear hL hB hb2 HBg hbk hmb hBB x0 x1
  have hsub : ((N + 1 : Nat) : Int) - 1 = (N : Int) := by omega
  by_cases hN2 : 2 ≤ N
  ·have hlt2 : decide ((N : Int) < 2) = false := decide_eq_false (by omega)
   have hnz : ¬ ((N : Int) - 1 = 0) := by omega
   have hshy : (which : Int) % ((N : Int) - 1) = ((which % (N - 1) : Nat) : Int) := by rw [show (N : Int) - 1 = ((N - 1 : Nat) : Int) by omega]; exact (Int.natCast_emod which (N - 1)).symm
   have hs5 := Nat.mod_lt which (show 0 < N - 1 by omega)
   have hmm : 0 ≤ (which : Int) % ((N : Int) - 1) ∧ (which : Int) % ((N : Int) - 1) < 4 := by rw [hshy]; omega
   obtain ⟨hmm0, hmm1⟩ := hmm
   have hwN : IntKind.i64.wrap ((N : Int) - 1) = (N : Int) - 1 := wrapI_id (by omega) (by omega)
   have hwP : IntKind.i64.wrap (1 + (which : Int) % ((N : Int) - 1)) = 1 + (which : Int) % ((N : Int) - 1) := wrapI_id (by omega) (by omega)
   go_upto_region 9 with (go_at_call 20; refine (last_any H2.out).mono ?_; rw [hsub]; rintro e w3 ⟨rfl, rfl⟩)
   have hpe : (1 : Int) + (which : Int) % ((N - 1 : Nat) : Int) = ((1 + which % (N - 1) : Nat) : Int) := by rw [← Int.natCast_emod]; omega
   rw [hpe]
   clear hmm0 hmm1 hwP hpe hshy
   have hp1 : 1 ≤ 1 + which % (N - 1) := by omega
   have hp2 : 1 + which % (N - 1) < N := by omega
   generalize 1 + which % (N - 1) = party at *
   clear hs5 hnz hwN
   have HP := Lib.hid (HHp.out party hp1 hp2)
   have HI0 := Lib.hid (HSb.out party 0 (by omega))
   have hst0 : Lane.Strict y0 party (party - 1) 0 ∧ Lane.Strict y0 (party - 1) party 1 := ⟨fun c => (by rw [HZz.out] at c; cases c), fun c => (by rw [HZz.out] at c; cases c)⟩
   have hhad := HI0.out.worth HP.out hst0.1 hst0.2
   have hwo0 := worth_any H2.out.way H2.out.ok H2.out.fit (party : Int)
   rw [hhad] at hwo0
   obtain ⟨had, hha⟩ : ∃ z, (Ps.getD party default).h0 + (Ps.getD (party - 1) default).h1 = z := ⟨_, rfl⟩
   rw [hha] at hwo0
   have HHa := Lib.hid hha; have HWo0 := Lib.hid hwo0
   have hc0 := block_cell H2.out.box 0
   simp at hc0
   clear hst0 hhad hha hwo0 HHp HSb HZz
   go_upto_region 10 with (go_at_call 21; refine HWo0.out.mono ?_; rintro e w3 ⟨rfl, hb3⟩; have HBz := Lib.hid hb3; clear hb3 hc0)
   have HLz := Lib.hid (H2.out.below HBz.out)
   have HCz : Hid (LChg aW bk mb w2 w3) := Lib.hid (.of_below HBz.out)
   go_upto_region 12 with fail
   go_loopw [14, 54] (fun v i wr => ∃ (k n : Nat) (y' : Wy) (a' : WyA) (L' : List En), k ≤ nl ∧ n ≤ 255 * k ∧ L'.length ≤ n + 2 * k ∧ v = .int .i64 n ∧ i = .int .i64 k ∧ Hid (LwAt wr B Bb wob wb bk mb y' a' L' Ak (N + 1) ck An N cn Af N cf (.slice Au N cu)) ∧ Hid (aW.sameF a') ∧ Hid (LChg aW bk mb w2 wr) ∧ Hid (HubI p Ps party (n : Int) y' L')) (fun _ i _ => nl - (RowKit.intOf i).toNat)
   case atStart => exact ⟨0, 0, y0, aW, [], by omega, by omega, by simp, rfl, rfl, HLz, Lib.hid (.refl _), HCz, HI0⟩
   case round =>
    obtain ⟨k, n, yk, a', Lk, hk, hnk, hlk, rfl, rfl, HL, HS, HC, HI⟩ := hrel
    have HBw : Hid (Below w.heap.size w wr) := Lib.hid (HC.out.under Hb2.out hbk' hmb' fun j hf => by have := H2.out.way.F_ge hf; omega)
    by_cases hkl : k < nl
    ·have hd1 : decide ((k : Int) < (nl : Int)) = true := decide_eq_true (by omega)
     have hki : (k : Int) < (nl : Int) := by omega
     obtain ⟨pb, po, hA, hpb, hrg⟩ := (HRl.out.below HBw.out (Nat.le_refl _)).crange hkl
     have hxo := getC_ok HLo.out k
     have hbx := hxo.kb
     generalize l.getD k Ac.zero = x at *
     have HXo := Lib.hid hxo; have HRg := Lib.hid hrg
     clear hxo hrg
     subst hA
     have HXb : Hid ((wr.alloc (.cells #[.int .u8 x.w, .int .u8 x.by_, .int .i64 x.hop, .int .i64 x.wh, .int .i64 x.party, .int .i64 x.a, .int .i64 x.b, .bool x.bad] 78)).heap[wr.heap.size]? = some (.cells #[.int .u8 x.w, .int .u8 x.by_, .int .i64 x.hop, .int .i64 x.wh, .int .i64 x.party, .int .i64 x.a, .int .i64 x.b, .bool x.bad] 78 (0, 0))) := heap_alloc_new _ _
     have HCb := Lib.hid (HC.out.trans (.of_below (a := aW) (bk := bk) (mb := mb) (below_one wr (.cells #[.int .u8 x.w, .int .u8 x.by_, .int .i64 x.hop, .int .i64 x.wh, .int .i64 x.party, .int .i64 x.a, .int .i64 x.b, .bool x.bad] 78))))
     have HLb := Lib.hid (HL.out.below (below_one wr (.cells #[.int .u8 x.w, .int .u8 x.by_, .int .i64 x.hop, .int .i64 x.wh, .int .i64 x.party, .int .i64 x.a, .int .i64 x.b, .bool x.bad] 78)))
     go_upto_region 13 with fail
     refine wp_region_list ?_
     refine wpList_value (.pointer (some ⟨pb, po + k * 8, none⟩)) (by kernel_rfl) (by go_simp) ?_
     simp only [Act.put, sT]
     refine wpList_load_mid (by rfl) 78 _ (by rfl) pb (po + k * 8) (by rfl) [.int .u8 x.w, .int .u8 x.by_, .int .i64 x.hop, .int .i64 x.wh, .int .i64 x.party, .int .i64 x.a, .int .i64 x.b, .bool x.bad] _ HRg.out Tryz.underlying78 rfl (by kernel_rfl) ?_
     simp only [Act.put, sT]
     go_upto_region 14 with fail
     obtain ⟨xb, hxb⟩ : ∃ z, wr.heap.size = z := ⟨_, rfl⟩
     rw [hxb] at HXb ⊢
     clear hxb
     generalize wr.alloc (.cells #[.int .u8 x.w, .int .u8 x.by_, .int .i64 x.hop, .int .i64 x.wh, .int .i64 x.party, .int .i64 x.a, .int .i64 x.b, .bool x.bad] 78) = w4 at *
     have r1 : w4.cell? ⟨xb, 1, none⟩ = some (.int .u8 x.by_) := block_cell HXb.out 1
     go_upto_region 15 with fail
     clear r1
     go_loopw [14, 60] (fun v i wz => ∃ (q : Nat) (yq : Wy) (aq : WyA) (Lq : List En), q ≤ x.by_ ∧ Lq.length ≤ n + q + 2 * k ∧ v = .int .i64 ((n + q : Nat) : Int) ∧ i = .int .u8 q ∧ Hid (LwAt wz B Bb wob wb bk mb yq aq Lq Ak (N + 1) ck An N cn Af N cf (.slice Au N cu)) ∧ Hid (aW.sameF aq) ∧ Hid (LChg aW bk mb w2 wz) ∧ Hid (HubI p Ps party ((n + q : Nat) : Int) yq Lq) ∧ Hid (wz.heap[xb]? = some (.cells #[.int .u8 x.w, .int .u8 x.by_, .int .i64 x.hop, .int .i64 x.wh, .int .i64 x.party, .int .i64 x.a, .int .i64 x.b, .bool x.bad] 78 (0, 0)))) (fun _ i _ => x.by_ - (RowKit.intOf i).toNat)
     case atStart => exact ⟨0, yk, a', Lk, by omega, by omega, rfl, rfl, HLb, HS, HCb, HI, HXb⟩
     case round =>
      obtain ⟨q, yq, aq, Lq, hq, hlq, rfl, rfl, HL, HS, HC, HI, HXb⟩ := hrel
      by_cases hqt : q < x.by_
      ·have hd3 : decide ((q : Int) < (x.by_ : Int)) = true := decide_eq_true (by omega)
       have hqi : (q : Int) < (x.by_ : Int) := by omega
       have hpq : (party : Int) = (party : Int) := rfl
       have hfar : far ((n + q : Nat) : Int) = true := by unfold far; simp; omega
       have htn := HI.out.turn HP.out hfar (now' := ((n + (q + 1) : Nat) : Int)) (by omega)
       have hhb := hub_any HL.out (by omega) party ⟨hp1, by omega⟩ (by omega) ((n + q : Nat) : Int)
       have hle : (lawHub yq Lq party ((n + q : Nat) : Int)).2.length ≤ Lq.length + 1 := hub_len _ _ _ _
       generalize lawHub yq Lq party ((n + q : Nat) : Int) = r at *
       obtain ⟨yr, Lr⟩ := r
       simp only at htn hhb hle
       have HHb := Lib.hid hhb; have HTn := Lib.hid htn.1
       clear hhb htn hfar hpq
       generalize hnq : n + q = m at *
       go_upto_region 17 with (go_at_call 36; refine HHb.out.mono ?_; rintro e w5 ⟨rfl, a5, h1, h2, h3⟩; have HL5 := Lib.hid h1; have HS5 := Lib.hid (HS.out.trans h2); have HC5 := Lib.hid (HC.out.trans (h3.same HS.out)); have HX5 := Lib.hid (HL.out.keep (h3.same (.refl _)) HXb.out (by decide) (by decide) (by decide) (by decide)); clear h1 h2 h3)
       go_wp2
       go_roundw
       case rel => exact ⟨q + 1, yr, a5, Lr, hqt, by omega, by rw [← hnq]; go_num, by go_num, HL5, HS5, HC5, HTn, HX5⟩
       case measure => simp [RowKit.intOf]; omega
      ·obtain rfl : q = x.by_ := by omega
       have hd3 : decide ((x.by_ : Int) < (x.by_ : Int)) = false := decide_eq_false (by omega)
       obtain ⟨r0, r1, r2, r3, r4, r5, r6, r7⟩ := ac_cells HXb.out
       have hmi := mine_any x party ⟨hp1, by omega⟩ wr
       cases hm : x.mine (party : Int) with
       | true =>
        rw [hm] at hmi
        have HMi := Lib.hid hmi
        clear hmi hm
        go_upto_region 21 with (go_at_call 37; refine HMi.out.mono ?_; rintro e w6 ⟨rfl, hb6⟩; have HL6 := Lib.hid (HL.out.below hb6); have HC6 := Lib.hid (HC.out.trans (.of_below (a := aW) (bk := bk) (mb := mb) hb6)); clear hb6)
        clear r0 r1 r2 r3 r4 r5 r6 r7
        go_wp2
        go_roundw
        case rel => exact ⟨k + 1, n + x.by_, yq, aq, Lq, hkl, by omega, by omega, rfl, by go_num, HL6, HS, HC6, HI⟩
        case measure => simp [RowKit.intOf]; omega
       | false =>
        rw [hm] at hmi
        have HMi := Lib.hid hmi
        have hact := HI.out.act HP.out x hm
        have hle := lawDo_len yq Lq x ((n + x.by_ : Nat) : Int)
        have HAc := Lib.hid hact
        clear hmi hm hact
        go_upto_region 20 with (go_at_call 37; refine HMi.out.mono ?_; rintro e w6 ⟨rfl, hb6⟩; have HL6 := Lib.hid (HL.out.below hb6); have HC6 := Lib.hid (HC.out.trans (.of_below (a := aW) (bk := bk) (mb := mb) hb6)); have HX6 := Lib.hid (block_below HXb.out hb6 (block_lt HXb.out)); clear hb6)
        clear r0 r1 r2 r3 r4 r5 r6 r7
        obtain ⟨r0, r1, r2, r3, r4, r5, r6, r7⟩ := ac_cells HX6.out
        have hdo := do_any HL6.out x HXo.out ((n + x.by_ : Nat) : Int) (by omega) (by omega)
        generalize lawDo yq Lq x ((n + x.by_ : Nat) : Int) = r at *
        obtain ⟨er, yr, Lr⟩ := r
        simp only at hdo hle HAc
        have HDo := Lib.hid hdo
        clear hdo
        go_upto_region 21 with (go_at_call 38; refine HDo.out.mono ?_; rintro e w7 ⟨rfl, a7, h1, h2, h3⟩; have HL7 := Lib.hid h1; have HS7 := Lib.hid (HS.out.trans h2); have HC7 := Lib.hid (HC6.out.trans (h3.same HS.out)); clear h1 h2 h3)
        clear r0 r1 r2 r3 r4 r5 r6 r7
        go_wp2
        go_roundw
        case rel => exact ⟨k + 1, n + x.by_, yr, a7, Lr, hkl, by omega, by omega, rfl, by go_num, HL7, HS7, HC7, HAc⟩
        case measure => simp [RowKit.intOf]; omega
    ·obtain rfl : k = nl := by omega
     have hd1 : decide ((k : Int) < (k : Int)) = false := decide_eq_false (by omega)
     go_upto_region 23 with fail
     go_loopw [14, 78] (fun v i wz => ∃ (q : Nat) (yq : Wy) (aq : WyA) (Lq : List En), q ≤ 400 ∧ Lq.length ≤ n + q + 2 * k ∧ v = .int .i64 ((n + q : Nat) : Int) ∧ i = .int .i64 q ∧ Hid (LwAt wz B Bb wob wb bk mb yq aq Lq Ak (N + 1) ck An N cn Af N cf (.slice Au N cu)) ∧ Hid (aW.sameF aq) ∧ Hid (LChg aW bk mb w2 wz) ∧ Hid (HubI p Ps party ((n + q : Nat) : Int) yq Lq) ∧ Hid (0 < q → Lane.Strict yq party (party - 1) 0 ∧ Lane.Strict yq (party - 1) party 1)) (fun _ i _ => 400 - (RowKit.intOf i).toNat)
     case atStart => exact ⟨0, yk, a', Lk, by omega, by omega, rfl, rfl, HL, HS, HC, HI, Lib.hid fun h => absurd h (by omega)⟩
     case round =>
      obtain ⟨q, yq, aq, Lq, hq, hlq, rfl, rfl, HL, HS, HC, HI, HSt⟩ := hrel
      by_cases hqt : q < 400
      ·have hd3 : decide ((q : Int) < 400) = true := decide_eq_true (by omega)
       have hqi : (q : Int) < 400 := by omega
       have hfar : far ((n + q : Nat) : Int) = true := by unfold far; simp; omega
       have htn := HI.out.turn HP.out hfar (now' := ((n + (q + 1) : Nat) : Int)) (by omega)
       have hhb := hub_any HL.out (by omega) party ⟨hp1, by omega⟩ (by omega) ((n + q : Nat) : Int)
       have hle : (lawHub yq Lq party ((n + q : Nat) : Int)).2.length ≤ Lq.length + 1 := hub_len _ _ _ _
       generalize lawHub yq Lq party ((n + q : Nat) : Int) = r at *
       obtain ⟨yr, Lr⟩ := r
       simp only at htn hhb hle
       have HHb := Lib.hid hhb; have HTn := Lib.hid htn.1; have HSn := Lib.hid htn.2
       clear hhb htn hfar
       generalize hnq : n + q = m at *
       go_upto_region 26 with (go_at_call 36; refine HHb.out.mono ?_; rintro e w5 ⟨rfl, a5, h1, h2, h3⟩; have HL5 := Lib.hid h1; have HS5 := Lib.hid (HS.out.trans h2); have HC5 := Lib.hid (HC.out.trans (h3.same HS.out)); clear h1 h2 h3)
       go_wp2
       go_roundw
       case rel => exact ⟨q + 1, yr, a5, Lr, hqt, by omega, by rw [← hnq]; go_num, by go_num, HL5, HS5, HC5, HTn, Lib.hid fun _ => HSn.out⟩
       case measure => simp [RowKit.intOf]; omega
      ·obtain rfl : q = 400 := by omega
       have hd3 : decide (((400 : Nat) : Int) < 400) = false := decide_eq_false (by omega)
       have hw1 := HI.out.worth HP.out (HSt.out (by omega)).1 (HSt.out (by omega)).2
       rw [HHa.out] at hw1
       have hwo := worth_any HL.out.way HL.out.ok HL.out.fit (party : Int)
       rw [hw1] at hwo
       have HWo := Lib.hid hwo
       have HE := Lib.hid (HC.out.under Hb2.out hbk' hmb' fun j hf => by have := H2.out.way.F_ge hf; omega)
       have hc0 := block_cell HL.out.box 0
       simp at hc0
       have hhh : (had == had) = true := by simp
       clear hw1 hwo
       go_wp2_with (go_at_call 21; refine HWo.out.mono ?_; rintro e w8 ⟨rfl, hb8⟩; have HE8 := Lib.hid (HE.out.trans (hb8.mono HE.out.size)); clear hb8)
       go_ret
       exact ⟨rfl, HE8.out⟩
  ·have hlt2 : decide ((N : Int) < 2) = true := decide_eq_true (by omega)
   go_wp2_with (go_at_call 20; refine (last_any H2.out).mono ?_; rw [hsub]; rintro e w3 ⟨rfl, rfl⟩)
   go_ret
   exact ⟨rfl, Hb2.out⟩
 ·have hbig : (decide (nl ≤ 60) && !decide ((10 : Int) < (nh : Int))) = false := by
   simp only [Bool.and_eq_false_iff, decide_eq_false_iff_not, Bool.not_eq_false', decide_eq_true_eq]
   omega
  go_enter Tryz.func6, Tryz.ntmps6
  go_upto_region 1 with fail
  generalize w.alloc (.cells #[.int .u8 a, .int .u8 b] 45) = w0 at *
  have HK : Hid (∀ v, Calls Tryz.prog 14 #[] v fun e w' => e = .returned (.bool true) ∧ Below v.heap.size v w') := Lib.hid fun v => (known_any v).mono fun e w' h => h
  cases h60 : decide (nl ≤ 60) with
  | false =>
   go_upto_region 2 with (first | (go_at_call 14; refine (HK.out w0).mono ?_; rintro e w1 ⟨rfl, hb1⟩; have Hb1 := Lib.hid (Hb0.out.trans (hb1.mono Hb0.out.size)); clear hb1) | (go_at_call 35; refine (few_any Al nl cl w1).mono ?_; rw [h60]; rintro e w2 ⟨rfl, rfl⟩))
   go_wp2_with (go_at_call 14; refine (HK.out _).mono ?_; rintro e w3 ⟨rfl, hb3⟩; have Hb3 := Lib.hid (Hb1.out.trans (hb3.mono Hb1.out.size)); clear hb3)
   go_ret
   exact ⟨rfl, Hb3.out⟩
  | true =>
   have hd11 : decide ((10 : Int) < (nh : Int)) = true := by
    rw [h60] at hbig
    simpa using hbig
   have hn10 : (10 : Int) < (nh : Int) := of_decide_eq_true hd11
   go_upto_region 2 with (first | (go_at_call 14; refine (HK.out w0).mono ?_; rintro e w1 ⟨rfl, hb1⟩; have Hb1 := Lib.hid (Hb0.out.trans (hb1.mono Hb0.out.size)); clear hb1) | (go_at_call 35; refine (few_any Al nl cl w1).mono ?_; rw [h60]; rintro e w2 ⟨rfl, rfl⟩))
   go_wp2_with (go_at_call 14; refine (HK.out _).mono ?_; rintro e w3 ⟨rfl, hb3⟩; have Hb3 := Lib.hid (Hb1.out.trans (hb3.mono Hb1.out.size)); clear hb3)
   go_ret
   exact ⟨rfl, Hb3.out⟩
end
end Go.Proofs.YthhiookcknnmdaaGreat
