/- The walk of the reference's Check of a plan. Conditions: bounds. The walk of the reference's New of a plan. Conditions: bounds. The walk of the reference's Digest of a plan. Conditions: bounds. -/
import Derived.Test.YthhiookcknnmdaaGreatJoinUba
import Derived.Test.YthhiookcknnmdaaGreatStepApp
import Derived.Test.YthhiookcknnmdaaGreatJoinUac
import Derived.Test.YthhiookcknnmdaaGreatHsH
import Derived.Lib.SlBytesConst
namespace Go.Proofs.YthhiookcknnmdaaGreat
open Go.RowKit Go.Lib
set_option maxRecDepth 100000 in
set_option maxHeartbeats 8000000 in
theorem checkr_any (p : Pl) (Ak : Option Addr) (nk ck : Nat) (An : Option Addr) (nn cn : Nat) (Af : Option Addr) (nf cf : Nat) (wn : Int) (w : World) (h : p.At Ak nk ck An nn Af nf w) :
  Calls Tryz.prog 31 #[.agg #[.int .u8 p.tb.x0, .int .u8 p.tb.x1, .int .u8 p.tb.x2, .int .u8 p.tb.x3, .int .u8 p.tb.x4, .int .u8 p.tb.x5, .int .u8 p.tb.x6, .int .u8 p.tb.x7, .slice Ak nk ck, .int .i64 p.s0, .int .i64 p.s1, .slice An nn cn, .slice Af nf cf], .int .i64 wn] w fun e w' => e = .returned (.int .i64 (p.check wn)) ∧ Below w.heap.size w w' := by
 have HX : Hid ((w.alloc (.cells #[.int .u8 p.tb.x0, .int .u8 p.tb.x1, .int .u8 p.tb.x2, .int .u8 p.tb.x3, .int .u8 p.tb.x4, .int .u8 p.tb.x5, .int .u8 p.tb.x6, .int .u8 p.tb.x7, .slice Ak nk ck, .int .i64 p.s0, .int .i64 p.s1, .slice An nn cn, .slice Af nf cf] 65)).heap[w.heap.size]? = some (.cells #[.int .u8 p.tb.x0, .int .u8 p.tb.x1, .int .u8 p.tb.x2, .int .u8 p.tb.x3, .int .u8 p.tb.x4, .int .u8 p.tb.x5, .int .u8 p.tb.x6, .int .u8 p.tb.x7, .slice Ak nk ck, .int .i64 p.s0, .int .i64 p.s1, .slice An nn cn, .slice Af nf cf] 65 (0, 0))) := heap_alloc_new _ _
 have Hw : Hid (Below w.heap.size w (w.alloc (.cells #[.int .u8 p.tb.x0, .int .u8 p.tb.x1, .int .u8 p.tb.x2, .int .u8 p.tb.x3, .int .u8 p.tb.x4, .int .u8 p.tb.x5, .int .u8 p.tb.x6, .int .u8 p.tb.x7, .slice Ak nk ck, .int .i64 p.s0, .int .i64 p.s1, .slice An nn cn, .slice Af nf cf] 65))) := below_one _ _
 have Hz : Hid ((w.alloc (.cells #[.int .u8 p.tb.x0, .int .u8 p.tb.x1, .int .u8 p.tb.x2, .int .u8 p.tb.x3, .int .u8 p.tb.x4, .int .u8 p.tb.x5, .int .u8 p.tb.x6, .int .u8 p.tb.x7, .slice Ak nk ck, .int .i64 p.s0, .int .i64 p.s1, .slice An nn cn, .slice Af nf cf] 65)).heap.size = w.heap.size + 1) := by show _ = _; simp
 have H := Lib.hid h
 have Hl := Lib.hid h.k.dlenD; have Hln := Lib.hid h.n.ilen; have Hlf := Lib.hid h.f.ilen
 have hck := h.cap; have hbk := h.bk
 have heq := eql_digR
 clear h
 by_cases hw1 : wn < 1
 ·have q1 : decide (wn < 1) = true := decide_eq_true hw1
  have Hr := Lib.hid (plc_win (p := p) (wn := wn) (by simp [winB]; omega))
  clear hw1
  go_enter Tryz.func31, Tryz.ntmps31
  go_wp2
  go_ret
  exact ⟨by rw [Hr.out]; rfl, Hw.out⟩
 have q1 : decide (wn < 1) = false := decide_eq_false hw1
 by_cases hw2 : 1048576 < wn
 ·have q2 : decide (1048576 < wn) = true := decide_eq_true hw2
  have Hr := Lib.hid (plc_win (p := p) (wn := wn) (by simp [winB]; omega))
  clear hw1 hw2
  go_enter Tryz.func31, Tryz.ntmps31
  go_wp2
  go_ret
  exact ⟨by rw [Hr.out]; rfl, Hw.out⟩
 have q2 : decide (1048576 < wn) = false := decide_eq_false hw2
 have HW : Hid (winB wn = true) := by show _ = _; simp [winB]; omega
 by_cases hm1 : nk < 2
 ·have q3 : decide ((nk : Int) < 2) = true := decide_eq_true (by omega)
  have Hr := Lib.hid (plc_many (p := p) HW.out (by rw [Hl.out]; simp [manyB]; omega))
  clear hw1 hw2 hm1
  go_enter Tryz.func31, Tryz.ntmps31
  have z := block_cell HX.out
  have z0 := z 0; have z1 := z 1; have z2 := z 2; have z3 := z 3; have z4 := z 4; have z5 := z 5; have z6 := z 6; have z7 := z 7; have z8 := z 8; have z9 := z 9; have z10 := z 10; have z11 := z 11; have z12 := z 12
  simp at z0 z1 z2 z3 z4 z5 z6 z7 z8 z9 z10 z11 z12
  clear z
  go_wp2
  go_ret
  exact ⟨by rw [Hr.out]; rfl, Hw.out⟩
 have q3 : decide ((nk : Int) < 2) = false := decide_eq_false (by omega)
 by_cases hm2 : 8 < nk
 ·have q4 : decide ((8 : Int) < (nk : Int)) = true := decide_eq_true (by omega)
  have Hr := Lib.hid (plc_many (p := p) HW.out (by rw [Hl.out]; simp [manyB]; omega))
  clear hw1 hw2 hm1 hm2
  go_enter Tryz.func31, Tryz.ntmps31
  have z := block_cell HX.out
  have z0 := z 0; have z1 := z 1; have z2 := z 2; have z3 := z 3; have z4 := z 4; have z5 := z 5; have z6 := z 6; have z7 := z 7; have z8 := z 8; have z9 := z 9; have z10 := z 10; have z11 := z 11; have z12 := z 12
  simp at z0 z1 z2 z3 z4 z5 z6 z7 z8 z9 z10 z11 z12
  clear z
  go_wp2
  go_ret
  exact ⟨by rw [Hr.out]; rfl, Hw.out⟩
 have q4 : decide ((8 : Int) < (nk : Int)) = false := decide_eq_false (by omega)
 have HM : Hid (manyB p.ks.length = true) := by show _ = _; rw [Hl.out]; simp [manyB]; omega
 go_enter Tryz.func31, Tryz.ntmps31
 go_upto_region 1 with fail
 generalize w.alloc (.cells #[.int .u8 p.tb.x0, .int .u8 p.tb.x1, .int .u8 p.tb.x2, .int .u8 p.tb.x3, .int .u8 p.tb.x4, .int .u8 p.tb.x5, .int .u8 p.tb.x6, .int .u8 p.tb.x7, .slice Ak nk ck, .int .i64 p.s0, .int .i64 p.s1, .slice An nn cn, .slice Af nf cf] 65) = w0 at *
 have z := block_cell HX.out
 have z0 := z 0; have z1 := z 1; have z2 := z 2; have z3 := z 3; have z4 := z 4; have z5 := z 5; have z6 := z 6; have z7 := z 7; have z8 := z 8; have z9 := z 9; have z10 := z 10; have z11 := z 11; have z12 := z 12
 simp at z0 z1 z2 z3 z4 z5 z6 z7 z8 z9 z10 z11 z12
 clear z
 go_wp2_with fail
 clear z0 z1 z2 z3 z4 z5 z6 z7 z8 z9 z10 z11 z12 q1 q2 q3 q4 hw1 hw2 hm1
 go_loopw [5] (fun i wr => ∃ k : Nat, k ≤ nk ∧ i = .int .i64 k ∧ (∀ j, j < k → dupK p.ks j = false) ∧ Below w0.heap.size w0 wr) (fun i _ => nk - (RowKit.intOf i).toNat)
 case atStart => exact ⟨0, by omega, rfl, fun j hj => absurd hj (by omega), Below.refl _ _⟩
 case round =>
  obtain ⟨k, hk, rfl, h0, hbel⟩ := hrel
  have H0 := Lib.hid h0; have Hbel := Lib.hid hbel
  have HXr := Lib.hid (block_below HX.out hbel (by rw [Hz.out]; omega))
  have z := block_cell HXr.out
  have z0 := z 0; have z1 := z 1; have z2 := z 2; have z3 := z 3; have z4 := z 4; have z5 := z 5; have z6 := z 6; have z7 := z 7; have z8 := z 8; have z9 := z 9; have z10 := z 10; have z11 := z 11; have z12 := z 12
  simp at z0 z1 z2 z3 z4 z5 z6 z7 z8 z9 z10 z11 z12
  clear z
  have Hbw := Lib.hid (Hw.out.trans (hbel.mono Hw.out.size))
  have hszr : w.heap.size < wr.heap.size := by have := hbel.size; have := Hz.out; omega
  clear h0 hbel
  by_cases hlt : k < nk
  ·have hd1 : decide ((k : Int) < (nk : Int)) = true := decide_eq_true (by omega)
   have hki : (k : Int) < (nk : Int) := by omega
   go_upto_region 8 with fail
   go_wp2_with fail
   go_loopw [6] (fun i wz => ∃ q : Nat, q ≤ k ∧ i = .int .i64 q ∧ (∀ j, j < q → eqI (p.ks.getD j dz8).L (p.ks.getD k dz8).L = false) ∧ Below wr.heap.size wr wz) (fun i _ => k - (RowKit.intOf i).toNat)
   case atStart => exact ⟨0, by omega, rfl, fun j hj => absurd hj (by omega), Below.refl _ _⟩
   case round =>
    obtain ⟨q, hq, rfl, h1, hbz⟩ := hrel
    have H1 := Lib.hid h1; have Hbz := Lib.hid hbz
    have HXz := Lib.hid (block_below HXr.out hbz (by omega))
    clear z0 z1 z2 z3 z4 z5 z6 z7 z8 z9 z10 z11 z12
    have z := block_cell HXz.out
    have z0 := z 0; have z1 := z 1; have z2 := z 2; have z3 := z 3; have z4 := z 4; have z5 := z 5; have z6 := z 6; have z7 := z 7; have z8 := z 8; have z9 := z 9; have z10 := z 10; have z11 := z 11; have z12 := z 12
    simp at z0 z1 z2 z3 z4 z5 z6 z7 z8 z9 z10 z11 z12
    clear z
    have Hk0 := Lib.hid (((H.out.up Hw.out).up Hbel.out).up hbz)
    clear h1 hbz
    by_cases hlt2 : q < k
    ·have hd2 : decide ((q : Int) < (k : Int)) = true := decide_eq_true (by omega)
     have hqi : (q : Int) < (k : Int) := by omega
     have hqn : (q : Int) < (nk : Int) := by omega
     obtain ⟨b, o, e1, hbB, x0, x1, x2, x3, x4, x5, x6, x7⟩ := Hk0.out.k.di8v hlt
     obtain ⟨b', o', e2, hbB', y0, y1, y2, y3, y4, y5, y6, y7⟩ := Hk0.out.k.di8v (k := q) (by omega)
     rw [e1] at e2
     injection e2 with e2; injection e2 with e2 e3
     subst e1 e2 e3
     generalize hhk : p.ks.getD k dz8 = d at *
     generalize hhq : p.ks.getD q dz8 = g at *
     have Hhk := Lib.hid hhk; have Hhq := Lib.hid hhq
     clear hhk hhq
     by_cases hE : eqI g.L d.L = true
     ·have c5 : eqI [(d.x0 : Int), (d.x1 : Int), (d.x2 : Int), (d.x3 : Int), (d.x4 : Int), (d.x5 : Int), (d.x6 : Int), (d.x7 : Int)] [(g.x0 : Int), (g.x1 : Int), (g.x2 : Int), (g.x3 : Int), (g.x4 : Int), (g.x5 : Int), (g.x6 : Int), (g.x7 : Int)] = true := by have := eqI_iff.1 hE; exact eqI_iff.2 this.symm
      have Hr := Lib.hid (plc_dup (p := p) HW.out HM.out (k := k) (by rw [Hl.out]; exact hlt) (by unfold dupK; rw [List.any_eq_true]; exact ⟨q, by simpa using hlt2, by rw [Hhk.out, Hhq.out]; exact hE⟩))
      clear hE
      go_wp2
      go_region
      all_goals
       go_wp2
       go_ret
       exact ⟨by rw [Hr.out]; rfl, Hbw.out.trans (Hbz.out.drew.mono Hbw.out.size)⟩
     ·have hE' : eqI g.L d.L = false := by simpa using hE
      have c5 : eqI [(d.x0 : Int), (d.x1 : Int), (d.x2 : Int), (d.x3 : Int), (d.x4 : Int), (d.x5 : Int), (d.x6 : Int), (d.x7 : Int)] [(g.x0 : Int), (g.x1 : Int), (g.x2 : Int), (g.x3 : Int), (g.x4 : Int), (g.x5 : Int), (g.x6 : Int), (g.x7 : Int)] = false := by
       cases hx : eqI [(d.x0 : Int), (d.x1 : Int), (d.x2 : Int), (d.x3 : Int), (d.x4 : Int), (d.x5 : Int), (d.x6 : Int), (d.x7 : Int)] [(g.x0 : Int), (g.x1 : Int), (g.x2 : Int), (g.x3 : Int), (g.x4 : Int), (g.x5 : Int), (g.x6 : Int), (g.x7 : Int)] with
       | false => rfl
       | true => exact absurd (eqI_iff.2 (eqI_iff.1 hx).symm) hE
      have HE := Lib.hid hE'
      clear hE hE'
      go_wp2
      go_region
      all_goals
       go_wp2
       go_roundw
       case rel =>
        refine ⟨q + 1, by omega, by go_num, fun j hj => ?_, Hbz.out.drew⟩
        rcases Nat.lt_or_ge j q with h1 | h1
        ·exact H1.out j h1
        ·obtain rfl : j = q := by omega
         rw [Hhq.out]; exact HE.out
       case measure => simp [RowKit.intOf]; omega
    ·obtain rfl : q = k := by omega
     have hd2 : decide ((q : Int) < (q : Int)) = false := decide_eq_false (by omega)
     have Hd : Hid (dupK p.ks q = false) := by
      show _ = _
      unfold dupK
      rw [List.any_eq_false]
      intro j hj
      rw [H1.out j (by simpa using hj)]; simp
     go_wp2
     go_roundw
     case rel =>
      refine ⟨q + 1, by omega, by go_num, fun j hj => ?_, Hbel.out.trans (Hbz.out.mono Hbel.out.size)⟩
      rcases Nat.lt_or_ge j q with h1 | h1
      ·exact H0.out j h1
      ·obtain rfl : j = q := by omega
       exact Hd.out
     case measure => simp [RowKit.intOf]; omega
  ·obtain rfl : k = nk := by omega
   have hd1 : decide ((k : Int) < (k : Int)) = false := decide_eq_false (by omega)
   have HK : Hid (PlK p wn) := PlK.of HW.out HM.out (by rw [Hl.out]; exact H0.out)
   clear hlt
   go_upto_region 13 with fail
   by_cases hs0 : p.s0 < 1
   ·have p0 : decide (p.s0 < 1) = true := decide_eq_true hs0
    have Hr := Lib.hid (plc_stk HK.out (by simp [stkB]; omega))
    clear hs0
    go_wp2
    refine wp_loop_rounds 3 ?_
    iterate 1 (rw [rounds_succ]; go_wp2)
    go_ret
    exact ⟨by rw [Hr.out]; rfl, Hbw.out⟩
   have p0 : decide (p.s0 < 1) = false := decide_eq_false hs0
   by_cases hs1 : 562949953421312 < p.s0
   ·have p1 : decide (562949953421312 < p.s0) = true := decide_eq_true hs1
    have Hr := Lib.hid (plc_stk HK.out (by simp [stkB]; omega))
    clear hs0 hs1
    go_wp2
    refine wp_loop_rounds 3 ?_
    iterate 1 (rw [rounds_succ]; go_wp2)
    go_ret
    exact ⟨by rw [Hr.out]; rfl, Hbw.out⟩
   have p1 : decide (562949953421312 < p.s0) = false := decide_eq_false hs1
   by_cases hs2 : p.s1 < 1
   ·have p2 : decide (p.s1 < 1) = true := decide_eq_true hs2
    have Hr := Lib.hid (plc_stk HK.out (by simp [stkB]; omega))
    clear hs0 hs1 hs2
    go_wp2
    refine wp_loop_rounds 3 ?_
    iterate 2 (rw [rounds_succ]; go_wp2)
    go_ret
    exact ⟨by rw [Hr.out]; rfl, Hbw.out⟩
   have p2 : decide (p.s1 < 1) = false := decide_eq_false hs2
   by_cases hs3 : 562949953421312 < p.s1
   ·have p3 : decide (562949953421312 < p.s1) = true := decide_eq_true hs3
    have Hr := Lib.hid (plc_stk HK.out (by simp [stkB]; omega))
    clear hs0 hs1 hs2 hs3
    go_wp2
    refine wp_loop_rounds 3 ?_
    iterate 2 (rw [rounds_succ]; go_wp2)
    go_ret
    exact ⟨by rw [Hr.out]; rfl, Hbw.out⟩
   have p3 : decide (562949953421312 < p.s1) = false := decide_eq_false hs3
   have HS : Hid ((stkB p.s0 && stkB p.s1) = true) := by show _ = _; simp [stkB]; omega
   clear hs0 hs1 hs2 hs3
   have hk2 : 2 ≤ k := by have := HM.out; rw [Hl.out] at this; simp [manyB] at this; omega
   obtain ⟨m, hm⟩ : ∃ m, k = m + 1 := ⟨k - 1, by omega⟩
   have hsub : (k : Int) - 1 = (m : Int) := by omega
   have Hm := Lib.hid hm
   clear hm
   by_cases he : ¬ (nn = m ∧ nf = m)
   ·have Hr := Lib.hid (plc_len HK.out HS.out (by rw [Hl.out, Hln.out, Hlf.out, Hm.out]; exact he))
    by_cases e1 : nn = m
    ·have b1 : ((nn : Int) != (m : Int)) = false := by simp [e1]
     have b2 : ((nf : Int) != (m : Int)) = true := by rw [bne_iff_ne]; omega
     clear he e1
     go_wp2
     refine wp_loop_rounds 3 ?_
     iterate 3 (rw [rounds_succ]; go_wp2)
     go_ret
     exact ⟨by rw [Hr.out]; rfl, Hbw.out⟩
    ·have b1 : ((nn : Int) != (m : Int)) = true := by rw [bne_iff_ne]; omega
     clear he e1
     go_wp2
     refine wp_loop_rounds 3 ?_
     iterate 3 (rw [rounds_succ]; go_wp2)
     go_ret
     exact ⟨by rw [Hr.out]; rfl, Hbw.out⟩
   obtain ⟨rfl, rfl⟩ := Decidable.not_not.1 he
   clear he
   have b1 : ((nf : Int) != (nf : Int)) = false := by simp
   have HL : Hid (PlL p wn) := ⟨HK.out, HS.out, by rw [Hl.out, Hln.out, Hlf.out, Hm.out]; simp⟩
   have hlm : p.ks.length - 1 = nf := by rw [Hl.out, Hm.out]; rfl
   have Hlm := Lib.hid hlm
   have Hrr := Lib.hid (((H.out.up Hw.out).up Hbel.out))
   have HHn := Lib.hid (heightsr_any An nf cn p.nr wr Hrr.out.n (by have := Hrr.out.bf; omega))
   have HHf := Lib.hid (heightsr_any Af nf cf p.fr wr Hrr.out.f Hrr.out.bf)
   clear hlm
   cases f1 : p.nr.all far with
   | false =>
    rw [f1] at HHn
    have Hr := Lib.hid (plc_hgts HL.out Hlm.out (by rw [f1]; rfl))
    go_wp2
    refine wp_loop_rounds 3 ?_
    iterate 2 (rw [rounds_succ]; go_wp2)
    rw [rounds_succ]
    go_upto_region 20 with fail
    go_wp2_with fail
    refine HHn.out.mono ?_
    rintro e w1 ⟨rfl, rfl⟩
    go_wp2_with fail
    go_ret
    exact ⟨by rw [Hr.out]; rfl, Hbw.out⟩
   | true =>
   rw [f1] at HHn
   cases f2 : p.fr.all far with
   | false =>
    rw [f2] at HHf
    have Hr := Lib.hid (plc_hgts HL.out Hlm.out (by rw [f2]; simp))
    go_wp2
    refine wp_loop_rounds 3 ?_
    iterate 2 (rw [rounds_succ]; go_wp2)
    rw [rounds_succ]
    go_upto_region 20 with fail
    go_wp2_with fail
    refine HHn.out.mono ?_
    rintro e w1 ⟨rfl, rfl⟩
    go_wp2_with fail
    refine HHf.out.mono ?_
    rintro e w1 ⟨rfl, rfl⟩
    go_wp2_with fail
    go_ret
    exact ⟨by rw [Hr.out]; rfl, Hbw.out⟩
   | true =>
   rw [f2] at HHf
   have HH := Lib.hid (PlH.ofs HL.out Hlm.out f1 f2)
   clear f1 f2
   go_wp2
   refine wp_loop_rounds 3 ?_
   iterate 2 (rw [rounds_succ]; go_wp2)
   rw [rounds_succ]
   go_upto_region 20 with fail
   go_wp2_with fail
   refine HHn.out.mono ?_
   rintro e w1 ⟨rfl, rfl⟩
   go_wp2_with fail
   refine HHf.out.mono ?_
   rintro e w1 ⟨rfl, rfl⟩
   go_upto_region 22 with fail
   go_wp2_with fail
   have hwx : ∀ j, j < nf → (0 ≤ p.nr.getD j 0 ∧ p.nr.getD j 0 ≤ 1099511627776) ∧ (0 ≤ p.fr.getD j 0 ∧ p.fr.getD j 0 ≤ 1099511627776) := fun j hj => by
    have := HH.out.h j (by rw [Hlm.out]; exact hj)
    simp only [Bool.and_eq_true, far_iff] at this
    exact this
   have Hwx := Lib.hid hwx
   clear hwx
   go_loopw [8] (fun i w9 => Below wr.heap.size wr w9 ∧ ∃ s : Nat, 1 ≤ s ∧ s ≤ nf ∧ i = .int .i64 s ∧ (∀ j, 1 ≤ j → j < s → gapB p wn j = false)) (fun i _ => nf - (RowKit.intOf i).toNat)
   case atStart => exact ⟨Below.refl _ _, 1, by omega, by omega, rfl, fun j hj hj2 => absurd hj2 (by omega)⟩
   case round =>
    obtain ⟨hb6, s, hs1, hs, rfl, h0⟩ := hrel
    have H6 := Lib.hid h0; have Hb6 := Lib.hid hb6
    have HX6 := Lib.hid (block_below HXr.out hb6 (by omega))
    clear h0 hb6 z0 z1 z2 z3 z4 z5 z6 z7 z8 z9 z10 z11 z12
    have v := block_cell HX6.out
    have v0 := v 0; have v1 := v 1; have v2 := v 2; have v3 := v 3; have v4 := v 4; have v5 := v 5; have v6 := v 6; have v7 := v 7; have v8 := v 8; have v9 := v 9; have v10 := v 10; have v11 := v 11; have v12 := v 12
    simp at v0 v1 v2 v3 v4 v5 v6 v7 v8 v9 v10 v11 v12
    clear v
    by_cases hlt : s < nf
    ·obtain ⟨r, hr⟩ : ∃ r, s = r + 1 := ⟨s - 1, by omega⟩
     have hsub2 : (s : Int) - 1 = (r : Int) := by omega
     have hrq : r < nf := by omega
     obtain ⟨b, o, e1, hbB, x0⟩ := (Hrr.out.up Hb6.out).n.iat hlt
     obtain ⟨b', o', e2, hbB', y0⟩ := (Hrr.out.up Hb6.out).f.iat hlt
     obtain ⟨b3, o3, e3, hbB3, x1⟩ := (Hrr.out.up Hb6.out).n.iat hrq
     obtain ⟨b4, o4, e4, hbB4, y1⟩ := (Hrr.out.up Hb6.out).f.iat hrq
     rw [e1] at e3; rw [e2] at e4
     injection e3 with e3; injection e3 with e3 e5; injection e4 with e4; injection e4 with e4 e6
     subst e1 e2 e3 e4 e5 e6
     have k1 := Hwx.out s hlt; have k2 := Hwx.out r hrq
     have Hgap : Hid (gapB p wn s = (decide (p.nr.getD r 0 - p.nr.getD s 0 < wn) || decide (p.fr.getD s 0 - p.fr.getD r 0 < wn))) := by show _ = _; unfold gapB; rw [hr]; rfl
     have HR20 : Hid (gapB p wn s = true → p.check wn = 20) := fun h => plc_gap HH.out hs1 (by rw [Hlm.out]; exact hlt) h
     have hd1 : decide ((s : Int) < (nf : Int)) = true := decide_eq_true (by omega)
     have hki : (s : Int) < (nf : Int) := by omega
     have hrki : (r : Int) < (nf : Int) := by omega
     have Hr1 := Lib.hid hr
     clear hr
     generalize p.nr.getD r 0 = g1 at *
     generalize p.nr.getD s 0 = g2 at *
     generalize p.fr.getD s 0 = g3 at *
     generalize p.fr.getD r 0 = g4 at *
     obtain ⟨⟨k3, k4⟩, k5, k6⟩ := k1
     obtain ⟨⟨k7, k8⟩, k9, k10⟩ := k2
     cases c1 : decide (g1 - g2 < wn) with
     | true =>
      have Hr := Lib.hid (HR20.out (by rw [Hgap.out, c1]; rfl))
      go_wp2
      go_region
      all_goals
       go_wp2
       go_ret
       exact ⟨by rw [Hr.out]; rfl, Hbw.out.trans (Hb6.out.drew.mono Hbw.out.size)⟩
     | false =>
      cases c2 : decide (g3 - g4 < wn) with
      | true =>
       have Hr := Lib.hid (HR20.out (by rw [Hgap.out, c1, c2]; rfl))
       go_wp2
       go_region
       all_goals
        go_wp2
        go_ret
        exact ⟨by rw [Hr.out]; rfl, Hbw.out.trans (Hb6.out.drew.mono Hbw.out.size)⟩
      | false =>
       have HG : Hid (gapB p wn s = false) := by show _ = _; rw [Hgap.out, c1, c2]; rfl
       go_wp2
       go_region
       all_goals
        go_wp2
        go_roundw
        case rel =>
         refine ⟨Hb6.out.drew, s + 1, by omega, by omega, by go_num, fun j hj hj2 => ?_⟩
         rcases Nat.lt_or_ge j s with h1 | h1
         ·exact H6.out j hj h1
         ·obtain rfl : j = s := by omega
          exact HG.out
        case measure => simp [RowKit.intOf]; omega
    ·obtain rfl : s = nf := by omega
     have hd1 : decide ((s : Int) < (s : Int)) = false := decide_eq_false (by omega)
     have Hr := Lib.hid (plc_ok HH.out (fun k h1 h2 => H6.out k h1 (by rw [Hlm.out] at h2; exact h2)))
     go_wp2
     go_ret
     exact ⟨by rw [Hr.out]; rfl, Hbw.out.trans (Hb6.out.mono Hbw.out.size)⟩
section
variable {P : Program} {o : Oper} {a : Act} {K : Act → World → Prop} {Q : Exit → Act → World → Prop} {w : World}
theorem step_emptyR (i : TypeInfo) (t e : TypeId) (ho : o.op = .buildSlice t 0 #[]) (hu : P.underlying t = some (.slice e)) (hi : P.info? e = some i) (h : K (a.put o.dst (.slice (some ⟨w.heap.size, 0, none⟩) 0 0)) (w.alloc (.cells #[] e))) : Oper.wp P o a w K Q := by
 have hr : (Instr.buildSlice t 0 #[]).run P w = .ok (.slice (some ⟨w.heap.size, 0, none⟩) 0 0) (w.alloc (.cells #[] e)) := by
  simp [Instr.buildSlice, run_underlying hu, sizeOf, typeInfo, hi, Instr.fill, newRow]
  rw [Array.eq_empty_of_size_eq_zero (xs := Array.map (fun _ : Nat => (default : Value)) (Array.range 0)) (by simp)]
 unfold Oper.wp
 simp only [execOp, ho, List.map_toArray, List.map_nil, Sem.run_bind, hr, Result.andThen_ok]
 exact h
end
theorem own_emptyR (u : World) (t : TypeId) (sz B : Nat) (hB : B ≤ u.heap.size) : (u.alloc (.cells #[] t)).ownsRow B t sz (.slice (some ⟨u.heap.size, 0, none⟩) 0 0) 0 [] :=
 ⟨by simp, .inr ⟨u.heap.size, 0, #[], rfl, hB, heap_alloc_new u _, by omega, by simp [maxLen], by simp, by simp⟩⟩
theorem flatD_oneR (L : List D8) : ∀ u ∈ flatD L, u.oneCell' = true := by
 intro u hu
 simp only [flatD, List.mem_flatMap] at hu
 obtain ⟨x, _, hx⟩ := hu
 simp [D8.cells] at hx
 rcases hx with rfl | rfl | rfl | rfl | rfl | rfl | rfl | rfl <;> rfl
theorem new_is {tb : D8} {ks : List D8} {s0 s1 last wn : Int} (hW : winB wn = true) (hF : far last = true) : Pl.new tb ks s0 s1 last wn = if (Pl.mk_ tb ks s0 s1 last wn).check wn = 0 then (0, Pl.mk_ tb ks s0 s1 last wn) else ((Pl.mk_ tb ks s0 s1 last wn).check wn, pl0) := by
 unfold Pl.new
 rw [if_pos hW, if_pos hF]
 cases hM : manyB ks.length with
 | true => rfl
 | false =>
  have : (Pl.mk_ tb ks s0 s1 last wn).check wn = 3 := plc_many hW hM
  rw [this]; rfl
def GivesPr (p : Pl) (er : Int) (w : World) (e : Ending) (w' : World) : Prop :=
 ∃ Ak nk ck An nn cn Af nf cf, e = .returned (.tuple #[.agg #[.int .u8 p.tb.x0, .int .u8 p.tb.x1, .int .u8 p.tb.x2, .int .u8 p.tb.x3, .int .u8 p.tb.x4, .int .u8 p.tb.x5, .int .u8 p.tb.x6, .int .u8 p.tb.x7, .slice Ak nk ck, .int .i64 p.s0, .int .i64 p.s1, .slice An nn cn, .slice Af nf cf], .int .i64 er]) ∧ p.At Ak nk ck An nn Af nf w' ∧ Below w.heap.size w w'
set_option maxRecDepth 100000 in
set_option maxHeartbeats 8000000 in
theorem newr_any (tb : D8) (ks : List D8) (s0 s1 last wn : Int) (Ak : Option Addr) (nk ck : Nat) (w : World) (h : Rd w w.heap.size 8 Ak nk (flatD ks)) (hn : nk ≤ 20) :
  Calls Tryz.prog 28 #[.agg #[.int .u8 tb.x0, .int .u8 tb.x1, .int .u8 tb.x2, .int .u8 tb.x3, .int .u8 tb.x4, .int .u8 tb.x5, .int .u8 tb.x6, .int .u8 tb.x7], .slice Ak nk ck, .agg #[.int .i64 s0, .int .i64 s1], .int .i64 last, .int .i64 wn] w (GivesPr (Pl.new tb ks s0 s1 last wn).2 (Pl.new tb ks s0 s1 last wn).1 w) := by
 have Hl := Lib.hid h.dlenD
 have Hw : Hid (Below w.heap.size w (((w.alloc (.cells #[.int .u8 tb.x0, .int .u8 tb.x1, .int .u8 tb.x2, .int .u8 tb.x3, .int .u8 tb.x4, .int .u8 tb.x5, .int .u8 tb.x6, .int .u8 tb.x7] 26)).alloc (.cells #[.int .i64 s0, .int .i64 s1] 29)).alloc (.cells #[.int .u8 0, .int .u8 0, .int .u8 0, .int .u8 0, .int .u8 0, .int .u8 0, .int .u8 0, .int .u8 0, .slice none 0 0, .int .i64 0, .int .i64 0, .slice none 0 0, .slice none 0 0] 65))) := ((below_two w _ _).alloc (by simp; omega) _)
 have Hz : Hid ((((w.alloc (.cells #[.int .u8 tb.x0, .int .u8 tb.x1, .int .u8 tb.x2, .int .u8 tb.x3, .int .u8 tb.x4, .int .u8 tb.x5, .int .u8 tb.x6, .int .u8 tb.x7] 26)).alloc (.cells #[.int .i64 s0, .int .i64 s1] 29)).alloc (.cells #[.int .u8 0, .int .u8 0, .int .u8 0, .int .u8 0, .int .u8 0, .int .u8 0, .int .u8 0, .int .u8 0, .slice none 0 0, .int .i64 0, .int .i64 0, .slice none 0 0, .slice none 0 0] 65)).heap.size = w.heap.size + 3) := by show _ = _; simp
 have HX0 : Hid ((((w.alloc (.cells #[.int .u8 tb.x0, .int .u8 tb.x1, .int .u8 tb.x2, .int .u8 tb.x3, .int .u8 tb.x4, .int .u8 tb.x5, .int .u8 tb.x6, .int .u8 tb.x7] 26)).alloc (.cells #[.int .i64 s0, .int .i64 s1] 29)).alloc (.cells #[.int .u8 0, .int .u8 0, .int .u8 0, .int .u8 0, .int .u8 0, .int .u8 0, .int .u8 0, .int .u8 0, .slice none 0 0, .int .i64 0, .int .i64 0, .slice none 0 0, .slice none 0 0] 65)).heap[w.heap.size]? = some (.cells #[.int .u8 tb.x0, .int .u8 tb.x1, .int .u8 tb.x2, .int .u8 tb.x3, .int .u8 tb.x4, .int .u8 tb.x5, .int .u8 tb.x6, .int .u8 tb.x7] 26 (0, 0))) := block_alloc (block_alloc (heap_alloc_new _ _) _) _
 have HX1 : Hid ((((w.alloc (.cells #[.int .u8 tb.x0, .int .u8 tb.x1, .int .u8 tb.x2, .int .u8 tb.x3, .int .u8 tb.x4, .int .u8 tb.x5, .int .u8 tb.x6, .int .u8 tb.x7] 26)).alloc (.cells #[.int .i64 s0, .int .i64 s1] 29)).alloc (.cells #[.int .u8 0, .int .u8 0, .int .u8 0, .int .u8 0, .int .u8 0, .int .u8 0, .int .u8 0, .int .u8 0, .slice none 0 0, .int .i64 0, .int .i64 0, .slice none 0 0, .slice none 0 0] 65)).heap[w.heap.size + 1]? = some (.cells #[.int .i64 s0, .int .i64 s1] 29 (0, 0))) := block_alloc (alloc_at (by simp)) _
 have HX2 : Hid ((((w.alloc (.cells #[.int .u8 tb.x0, .int .u8 tb.x1, .int .u8 tb.x2, .int .u8 tb.x3, .int .u8 tb.x4, .int .u8 tb.x5, .int .u8 tb.x6, .int .u8 tb.x7] 26)).alloc (.cells #[.int .i64 s0, .int .i64 s1] 29)).alloc (.cells #[.int .u8 0, .int .u8 0, .int .u8 0, .int .u8 0, .int .u8 0, .int .u8 0, .int .u8 0, .int .u8 0, .slice none 0 0, .int .i64 0, .int .i64 0, .slice none 0 0, .slice none 0 0] 65)).heap[w.heap.size + 2]? = some (.cells #[.int .u8 0, .int .u8 0, .int .u8 0, .int .u8 0, .int .u8 0, .int .u8 0, .int .u8 0, .int .u8 0, .slice none 0 0, .int .i64 0, .int .i64 0, .slice none 0 0, .slice none 0 0] 65 (0, 0))) := alloc_at (by simp)
 have Hr := Lib.hid h
 clear h
 by_cases hw1 : wn < 1
 ·have q1 : decide (wn < 1) = true := decide_eq_true hw1
  have He : Hid (Pl.new tb ks s0 s1 last wn = (1, pl0)) := by show _ = _; unfold Pl.new; rw [if_neg (by simp [winB]; omega)]
  clear hw1
  go_enter Tryz.func28, Tryz.ntmps28
  go_upto_region 2 with fail
  generalize (((w.alloc (.cells #[.int .u8 tb.x0, .int .u8 tb.x1, .int .u8 tb.x2, .int .u8 tb.x3, .int .u8 tb.x4, .int .u8 tb.x5, .int .u8 tb.x6, .int .u8 tb.x7] 26)).alloc (.cells #[.int .i64 s0, .int .i64 s1] 29)).alloc (.cells #[.int .u8 0, .int .u8 0, .int .u8 0, .int .u8 0, .int .u8 0, .int .u8 0, .int .u8 0, .int .u8 0, .slice none 0 0, .int .i64 0, .int .i64 0, .slice none 0 0, .slice none 0 0] 65)) = w0 at *
  refine wp_region_list ?_
  refine wpList_value (.agg #[.int .u8 0, .int .u8 0, .int .u8 0, .int .u8 0, .int .u8 0, .int .u8 0, .int .u8 0, .int .u8 0, .slice none 0 0, .int .i64 0, .int .i64 0, .slice none 0 0, .slice none 0 0]) (by kernel_rfl) (by kernel_rfl) ?_
  simp only [Act.put, sT]
  refine wpList_store_mid (by rfl) 65 _ _ (by rfl) (w.heap.size + 2) 0 #[.int .u8 0, .int .u8 0, .int .u8 0, .int .u8 0, .int .u8 0, .int .u8 0, .int .u8 0, .int .u8 0, .slice none 0 0, .int .i64 0, .int .i64 0, .slice none 0 0, .slice none 0 0] (by rfl) (by rfl) (there_mid HX2.out (by simp)) (by kernel_rfl) (by kernel_rfl) ?_
  obtain ⟨s1', s2'⟩ := set_all HX2.out [.int .u8 0, .int .u8 0, .int .u8 0, .int .u8 0, .int .u8 0, .int .u8 0, .int .u8 0, .int .u8 0, .slice none 0 0, .int .i64 0, .int .i64 0, .slice none 0 0, .slice none 0 0] rfl
  have HS1 := Lib.hid s1'; have HS2 := Lib.hid s2'
  clear s1' s2'
  dsimp only
  generalize World.setCells _ _ _ [.int .u8 0, .int .u8 0, .int .u8 0, .int .u8 0, .int .u8 0, .int .u8 0, .int .u8 0, .int .u8 0, .slice none 0 0, .int .i64 0, .int .i64 0, .slice none 0 0, .slice none 0 0] = w9 at *
  go_wp2
  refine bodyPost_ret (results_cellT 10 11 65 (w.heap.size + 2) #[.int .u8 0, .int .u8 0, .int .u8 0, .int .u8 0, .int .u8 0, .int .u8 0, .int .u8 0, .int .u8 0, .slice none 0 0, .int .i64 0, .int .i64 0, .slice none 0 0, .slice none 0 0] _ _ _ rfl rfl HS1.out Tryz.underlying65 rfl (by kernel_rfl)) rfl ?_
  unfold GivesPr
  rw [He.out]
  exact ⟨none, 0, 0, none, 0, 0, none, 0, 0, rfl, pl0_at _, Hw.out.grown HS2.out (by have := Hz.out; omega) (fun k hk => by cases hk; omega)⟩
 have q1 : decide (wn < 1) = false := decide_eq_false hw1
 by_cases hw2 : 1048576 < wn
 ·have q2 : decide (1048576 < wn) = true := decide_eq_true hw2
  have He : Hid (Pl.new tb ks s0 s1 last wn = (1, pl0)) := by show _ = _; unfold Pl.new; rw [if_neg (by simp [winB]; omega)]
  clear hw1 hw2
  go_enter Tryz.func28, Tryz.ntmps28
  go_upto_region 2 with fail
  generalize (((w.alloc (.cells #[.int .u8 tb.x0, .int .u8 tb.x1, .int .u8 tb.x2, .int .u8 tb.x3, .int .u8 tb.x4, .int .u8 tb.x5, .int .u8 tb.x6, .int .u8 tb.x7] 26)).alloc (.cells #[.int .i64 s0, .int .i64 s1] 29)).alloc (.cells #[.int .u8 0, .int .u8 0, .int .u8 0, .int .u8 0, .int .u8 0, .int .u8 0, .int .u8 0, .int .u8 0, .slice none 0 0, .int .i64 0, .int .i64 0, .slice none 0 0, .slice none 0 0] 65)) = w0 at *
  refine wp_region_list ?_
  refine wpList_value (.agg #[.int .u8 0, .int .u8 0, .int .u8 0, .int .u8 0, .int .u8 0, .int .u8 0, .int .u8 0, .int .u8 0, .slice none 0 0, .int .i64 0, .int .i64 0, .slice none 0 0, .slice none 0 0]) (by kernel_rfl) (by kernel_rfl) ?_
  simp only [Act.put, sT]
  refine wpList_store_mid (by rfl) 65 _ _ (by rfl) (w.heap.size + 2) 0 #[.int .u8 0, .int .u8 0, .int .u8 0, .int .u8 0, .int .u8 0, .int .u8 0, .int .u8 0, .int .u8 0, .slice none 0 0, .int .i64 0, .int .i64 0, .slice none 0 0, .slice none 0 0] (by rfl) (by rfl) (there_mid HX2.out (by simp)) (by kernel_rfl) (by kernel_rfl) ?_
  obtain ⟨s1', s2'⟩ := set_all HX2.out [.int .u8 0, .int .u8 0, .int .u8 0, .int .u8 0, .int .u8 0, .int .u8 0, .int .u8 0, .int .u8 0, .slice none 0 0, .int .i64 0, .int .i64 0, .slice none 0 0, .slice none 0 0] rfl
  have HS1 := Lib.hid s1'; have HS2 := Lib.hid s2'
  clear s1' s2'
  dsimp only
  generalize World.setCells _ _ _ [.int .u8 0, .int .u8 0, .int .u8 0, .int .u8 0, .int .u8 0, .int .u8 0, .int .u8 0, .int .u8 0, .slice none 0 0, .int .i64 0, .int .i64 0, .slice none 0 0, .slice none 0 0] = w9 at *
  go_wp2
  refine bodyPost_ret (results_cellT 10 11 65 (w.heap.size + 2) #[.int .u8 0, .int .u8 0, .int .u8 0, .int .u8 0, .int .u8 0, .int .u8 0, .int .u8 0, .int .u8 0, .slice none 0 0, .int .i64 0, .int .i64 0, .slice none 0 0, .slice none 0 0] _ _ _ rfl rfl HS1.out Tryz.underlying65 rfl (by kernel_rfl)) rfl ?_
  unfold GivesPr
  rw [He.out]
  exact ⟨none, 0, 0, none, 0, 0, none, 0, 0, rfl, pl0_at _, Hw.out.grown HS2.out (by have := Hz.out; omega) (fun k hk => by cases hk; omega)⟩
 have q2 : decide (1048576 < wn) = false := decide_eq_false hw2
 have hW : winB wn = true := by simp [winB]; omega
 by_cases hw3 : last < 0
 ·have q3 : decide (last < 0) = true := decide_eq_true hw3
  have He : Hid (Pl.new tb ks s0 s1 last wn = (2, pl0)) := by show _ = _; unfold Pl.new; rw [if_pos hW, if_neg (by simp [far]; omega)]
  clear hw1 hw2 hw3 hW
  go_enter Tryz.func28, Tryz.ntmps28
  go_upto_region 4 with fail
  generalize (((w.alloc (.cells #[.int .u8 tb.x0, .int .u8 tb.x1, .int .u8 tb.x2, .int .u8 tb.x3, .int .u8 tb.x4, .int .u8 tb.x5, .int .u8 tb.x6, .int .u8 tb.x7] 26)).alloc (.cells #[.int .i64 s0, .int .i64 s1] 29)).alloc (.cells #[.int .u8 0, .int .u8 0, .int .u8 0, .int .u8 0, .int .u8 0, .int .u8 0, .int .u8 0, .int .u8 0, .slice none 0 0, .int .i64 0, .int .i64 0, .slice none 0 0, .slice none 0 0] 65)) = w0 at *
  refine wp_region_list ?_
  refine wpList_value (.agg #[.int .u8 0, .int .u8 0, .int .u8 0, .int .u8 0, .int .u8 0, .int .u8 0, .int .u8 0, .int .u8 0, .slice none 0 0, .int .i64 0, .int .i64 0, .slice none 0 0, .slice none 0 0]) (by kernel_rfl) (by kernel_rfl) ?_
  simp only [Act.put, sT]
  refine wpList_store_mid (by rfl) 65 _ _ (by rfl) (w.heap.size + 2) 0 #[.int .u8 0, .int .u8 0, .int .u8 0, .int .u8 0, .int .u8 0, .int .u8 0, .int .u8 0, .int .u8 0, .slice none 0 0, .int .i64 0, .int .i64 0, .slice none 0 0, .slice none 0 0] (by rfl) (by rfl) (there_mid HX2.out (by simp)) (by kernel_rfl) (by kernel_rfl) ?_
  obtain ⟨s1', s2'⟩ := set_all HX2.out [.int .u8 0, .int .u8 0, .int .u8 0, .int .u8 0, .int .u8 0, .int .u8 0, .int .u8 0, .int .u8 0, .slice none 0 0, .int .i64 0, .int .i64 0, .slice none 0 0, .slice none 0 0] rfl
  have HS1 := Lib.hid s1'; have HS2 := Lib.hid s2'
  clear s1' s2'
  dsimp only
  generalize World.setCells _ _ _ [.int .u8 0, .int .u8 0, .int .u8 0, .int .u8 0, .int .u8 0, .int .u8 0, .int .u8 0, .int .u8 0, .slice none 0 0, .int .i64 0, .int .i64 0, .slice none 0 0, .slice none 0 0] = w9 at *
  go_wp2
  refine bodyPost_ret (results_cellT 10 11 65 (w.heap.size + 2) #[.int .u8 0, .int .u8 0, .int .u8 0, .int .u8 0, .int .u8 0, .int .u8 0, .int .u8 0, .int .u8 0, .slice none 0 0, .int .i64 0, .int .i64 0, .slice none 0 0, .slice none 0 0] _ _ _ rfl rfl HS1.out Tryz.underlying65 rfl (by kernel_rfl)) rfl ?_
  unfold GivesPr
  rw [He.out]
  exact ⟨none, 0, 0, none, 0, 0, none, 0, 0, rfl, pl0_at _, Hw.out.grown HS2.out (by have := Hz.out; omega) (fun k hk => by cases hk; omega)⟩
 have q3 : decide (last < 0) = false := decide_eq_false hw3
 by_cases hw4 : 1099511627776 < last
 ·have q4 : decide (1099511627776 < last) = true := decide_eq_true hw4
  have He : Hid (Pl.new tb ks s0 s1 last wn = (2, pl0)) := by show _ = _; unfold Pl.new; rw [if_pos hW, if_neg (by simp [far]; omega)]
  clear hw1 hw2 hw3 hw4 hW
  go_enter Tryz.func28, Tryz.ntmps28
  go_upto_region 4 with fail
  generalize (((w.alloc (.cells #[.int .u8 tb.x0, .int .u8 tb.x1, .int .u8 tb.x2, .int .u8 tb.x3, .int .u8 tb.x4, .int .u8 tb.x5, .int .u8 tb.x6, .int .u8 tb.x7] 26)).alloc (.cells #[.int .i64 s0, .int .i64 s1] 29)).alloc (.cells #[.int .u8 0, .int .u8 0, .int .u8 0, .int .u8 0, .int .u8 0, .int .u8 0, .int .u8 0, .int .u8 0, .slice none 0 0, .int .i64 0, .int .i64 0, .slice none 0 0, .slice none 0 0] 65)) = w0 at *
  refine wp_region_list ?_
  refine wpList_value (.agg #[.int .u8 0, .int .u8 0, .int .u8 0, .int .u8 0, .int .u8 0, .int .u8 0, .int .u8 0, .int .u8 0, .slice none 0 0, .int .i64 0, .int .i64 0, .slice none 0 0, .slice none 0 0]) (by kernel_rfl) (by kernel_rfl) ?_
  simp only [Act.put, sT]
  refine wpList_store_mid (by rfl) 65 _ _ (by rfl) (w.heap.size + 2) 0 #[.int .u8 0, .int .u8 0, .int .u8 0, .int .u8 0, .int .u8 0, .int .u8 0, .int .u8 0, .int .u8 0, .slice none 0 0, .int .i64 0, .int .i64 0, .slice none 0 0, .slice none 0 0] (by rfl) (by rfl) (there_mid HX2.out (by simp)) (by kernel_rfl) (by kernel_rfl) ?_
  obtain ⟨s1', s2'⟩ := set_all HX2.out [.int .u8 0, .int .u8 0, .int .u8 0, .int .u8 0, .int .u8 0, .int .u8 0, .int .u8 0, .int .u8 0, .slice none 0 0, .int .i64 0, .int .i64 0, .slice none 0 0, .slice none 0 0] rfl
  have HS1 := Lib.hid s1'; have HS2 := Lib.hid s2'
  clear s1' s2'
  dsimp only
  generalize World.setCells _ _ _ [.int .u8 0, .int .u8 0, .int .u8 0, .int .u8 0, .int .u8 0, .int .u8 0, .int .u8 0, .int .u8 0, .slice none 0 0, .int .i64 0, .int .i64 0, .slice none 0 0, .slice none 0 0] = w9 at *
  go_wp2
  refine bodyPost_ret (results_cellT 10 11 65 (w.heap.size + 2) #[.int .u8 0, .int .u8 0, .int .u8 0, .int .u8 0, .int .u8 0, .int .u8 0, .int .u8 0, .int .u8 0, .slice none 0 0, .int .i64 0, .int .i64 0, .slice none 0 0, .slice none 0 0] _ _ _ rfl rfl HS1.out Tryz.underlying65 rfl (by kernel_rfl)) rfl ?_
  unfold GivesPr
  rw [He.out]
  exact ⟨none, 0, 0, none, 0, 0, none, 0, 0, rfl, pl0_at _, Hw.out.grown HS2.out (by have := Hz.out; omega) (fun k hk => by cases hk; omega)⟩
 have q4 : decide (1099511627776 < last) = false := decide_eq_false hw4
 have Hnew := Lib.hid (new_is (tb := tb) (ks := ks) (s0 := s0) (s1 := s1) (last := last) (wn := wn) hW (by simp [far]; omega))
 have hwn : 1 ≤ wn ∧ wn ≤ 1048576 := by omega
 have hla : 0 ≤ last ∧ last ≤ 1099511627776 := by omega
 clear hw1 hw2 hw3 hw4 hW
 obtain ⟨i0, hi, hz0, hz1, hz2⟩ := info_parts info_digR
 have HI := Lib.hid (And.intro hi (And.intro hz0 (And.intro hz1 hz2))); clear hi hz0 hz1 hz2
 go_enter Tryz.func28, Tryz.ntmps28
 go_upto_region 5 with fail
 generalize (((w.alloc (.cells #[.int .u8 tb.x0, .int .u8 tb.x1, .int .u8 tb.x2, .int .u8 tb.x3, .int .u8 tb.x4, .int .u8 tb.x5, .int .u8 tb.x6, .int .u8 tb.x7] 26)).alloc (.cells #[.int .i64 s0, .int .i64 s1] 29)).alloc (.cells #[.int .u8 0, .int .u8 0, .int .u8 0, .int .u8 0, .int .u8 0, .int .u8 0, .int .u8 0, .int .u8 0, .slice none 0 0, .int .i64 0, .int .i64 0, .slice none 0 0, .slice none 0 0] 65)) = w0 at *
 clear q1 q2 q3 q4
 go_cut [12] (fun s12 wx => ∃ (pb : Nat) (Ax : Option Addr) (cx : Nat), s12 = .pointer (some ⟨pb, 0, none⟩) ∧ wx.heap[pb]? = some (.cells #[.int .u8 tb.x0, .int .u8 tb.x1, .int .u8 tb.x2, .int .u8 tb.x3, .int .u8 tb.x4, .int .u8 tb.x5, .int .u8 tb.x6, .int .u8 tb.x7, .slice Ax nk cx, .int .i64 s0, .int .i64 s1, .slice none 0 0, .slice none 0 0] 65 (0, 0)) ∧ wx.ownsRow w0.heap.size 26 8 (.slice Ax nk cx) nk (flatD ks) ∧ Below w0.heap.size w0 wx ∧ w0.heap.size ≤ pb)
 case first =>
  have hz1 : w.heap.size < w0.heap.size := by have := Hz.out; omega
  have hz2 : w.heap.size + 1 < w0.heap.size := by have := Hz.out; omega
  have HR0 := Lib.hid ((Hr.out.below Hw.out (Nat.le_refl _)).more (B' := w0.heap.size) (by omega))
  refine wp_region_held_drew (S := fun w' => Below w0.heap.size w0 w') (by kernel_rfl) (Below.refl _ _).drew (fun hHeld => ?_)
  refine takeK 0 (some 30) (v := .agg ([.int .u8 tb.x0, .int .u8 tb.x1, .int .u8 tb.x2, .int .u8 tb.x3, .int .u8 tb.x4, .int .u8 tb.x5, .int .u8 tb.x6, .int .u8 tb.x7] : List Value).toArray) rfl (by kernel_rfl) (by kernel_rfl) (fun _ _ _ => id) (yieldsIf_load_mid (by kernel_rfl) 26 _ (by rfl) (w.heap.size) (0) (by rfl) [.int .u8 tb.x0, .int .u8 tb.x1, .int .u8 tb.x2, .int .u8 tb.x3, .int .u8 tb.x4, .int .u8 tb.x5, .int .u8 tb.x6, .int .u8 tb.x7] _ (fun w' hw' => range_all (block_below HX0.out hw' hz1)) Tryz.underlying26 rfl (by kernel_rfl)) (by assumption) ?_
  simp only [Act.put, sT]
  refine takP 2 32 ?_ rfl (by kernel_rfl) (fun _ _ _ => id) ?hy (by assumption) ?_
  case hy => intro w' h; clear h; go_simp; try with_reducible rfl
  simp only [Act.put, sT]
  refine takeK 4 (some 34) (v := .agg ([.int .i64 s0, .int .i64 s1] : List Value).toArray) rfl (by kernel_rfl) (by kernel_rfl) (fun _ _ _ => id) (yieldsIf_load_mid (by kernel_rfl) 29 _ (by rfl) (w.heap.size + 1) (0) (by rfl) [.int .i64 s0, .int .i64 s1] _ (fun w' hw' => range_all (block_below HX1.out hw' hz2)) Tryz.underlying29 rfl (by kernel_rfl)) (by assumption) ?_
  simp only [Act.put, sT]
  refine wpAnyH_ready (rs := [1, 6]) (by kernel_rfl) (by simp) ?_
  refine AllReadyH.cons rfl (fun K hK => ?_) (AllReadyH.cons rfl (fun K hK => ?_) AllReadyH.nil)
  all_goals try simp only [List.getElem_toArray, List.getElem_cons_zero, List.getElem_cons_succ]
  ·rw [if_pos (by kernel_rfl)]
   refine step_emptyR i0 _ _ rfl Tryz.underlying63 HI.out.1 ?_
   have HBa : Hid (Below w0.heap.size w0 (w0.drew.alloc (.cells #[] 26))) := Lib.hid ((Below.refl _ _).drew.alloc (Nat.le_refl _) _)
   have HOa := Lib.hid (own_emptyR w0.drew 26 8 w0.heap.size (Nat.le_refl _))
   have HRa := Lib.hid (HR0.out.drew.alloc (Nat.le_refl _) (.cells #[] 26))
   generalize w0.drew.alloc (.cells #[] 26) = wa at *
   refine hK.out _ _ HBa.out (fun _ => ?_)
   clear hK K
   try simp only [Act.put, sT]
   refine wpAnyH_ready (rs := [3, 6]) (by kernel_rfl) (by simp) ?_
   refine AllReadyH.cons rfl (fun K hK => ?_) (AllReadyH.cons rfl (fun K hK => ?_) AllReadyH.nil)
   all_goals try simp only [List.getElem_toArray, List.getElem_cons_zero, List.getElem_cons_succ]
   ·rw [if_pos (by kernel_rfl)]
    refine op_append_rdg wa (by rfl) (.tmp 31) (.tmp 32) 63 (by rfl) w0.heap.size 26 i0 (.agg #[.int .u8 0, .int .u8 0, .int .u8 0, .int .u8 0, .int .u8 0, .int .u8 0, .int .u8 0, .int .u8 0]) 8 8 Tryz.underlying63 HI.out rfl (by decide) _ 0 [] (by rfl) HOa.out _ Ak nk ck (flatD ks) (by rfl) HRa.out (flatD_oneR _) (by omega) (by omega) HBa.out.size ?_
    intro v4 w4 o4 b4 g4
    simp only [Nat.zero_add, List.nil_append] at o4
    obtain ⟨A4, c4, rfl⟩ := own_form o4
    have HO4 := Lib.hid o4
    have HB4 := Lib.hid (HBa.out.trans b4)
    have hz4 := HB4.out.size
    clear o4 b4 g4
    refine hK.out _ _ HB4.out (fun _ => ?_)
    clear hK K
    try simp only [Act.put, sT]
    refine takP 5 35 ?_ rfl (by kernel_rfl) (fun _ _ _ => id) ?hy (by assumption) ?_
    case hy => intro w' h; clear h; go_simp; try with_reducible rfl
    simp only [Act.put, sT]
    refine wpAnyH_ready (rs := [6]) (by kernel_rfl) (by simp) ?_
    refine AllReadyH.cons rfl (fun K hK => ?_) AllReadyH.nil
    rw [if_pos (by kernel_rfl)]
    try simp only [List.getElem_toArray, List.getElem_cons_zero, List.getElem_cons_succ]
    go_simp
    have HB5 := Lib.hid (HB4.out.alloc HB4.out.size (.cells #[.int .u8 0, .int .u8 0, .int .u8 0, .int .u8 0, .int .u8 0, .int .u8 0, .int .u8 0, .int .u8 0, .slice none 0 0, .int .i64 0, .int .i64 0, .slice none 0 0, .slice none 0 0] 65))
    have HZ5 : Hid ((w4.alloc (.cells #[.int .u8 0, .int .u8 0, .int .u8 0, .int .u8 0, .int .u8 0, .int .u8 0, .int .u8 0, .int .u8 0, .slice none 0 0, .int .i64 0, .int .i64 0, .slice none 0 0, .slice none 0 0] 65)).heap[w4.heap.size]? = some (.cells #[.int .u8 0, .int .u8 0, .int .u8 0, .int .u8 0, .int .u8 0, .int .u8 0, .int .u8 0, .int .u8 0, .slice none 0 0, .int .i64 0, .int .i64 0, .slice none 0 0, .slice none 0 0] 65)) := heap_alloc_new _ _
    have HO5 := Lib.hid (HO4.out.alloc (.cells #[.int .u8 0, .int .u8 0, .int .u8 0, .int .u8 0, .int .u8 0, .int .u8 0, .int .u8 0, .int .u8 0, .slice none 0 0, .int .i64 0, .int .i64 0, .slice none 0 0, .slice none 0 0] 65))
    generalize w4.alloc (.cells #[.int .u8 0, .int .u8 0, .int .u8 0, .int .u8 0, .int .u8 0, .int .u8 0, .int .u8 0, .int .u8 0, .slice none 0 0, .int .i64 0, .int .i64 0, .slice none 0 0, .slice none 0 0] 65) = w5 at *
    refine hK.out _ _ HB5.out (fun _ => ?_)
    clear hK K
    try simp only [Act.put, sT]
    refine wpAnyH_ready (rs := [7]) (by kernel_rfl) (by simp) ?_
    refine AllReadyH.cons rfl (fun K hK => ?_) AllReadyH.nil
    rw [if_pos (by kernel_rfl)]
    try simp only [List.getElem_toArray, List.getElem_cons_zero, List.getElem_cons_succ]
    refine wp_store_mid 65 _ _ (by rfl) (w4.heap.size) (0) #[.int .u8 tb.x0, .int .u8 tb.x1, .int .u8 tb.x2, .int .u8 tb.x3, .int .u8 tb.x4, .int .u8 tb.x5, .int .u8 tb.x6, .int .u8 tb.x7, .slice A4 nk c4, .int .i64 s0, .int .i64 s1, .slice none 0 0, .slice none 0 0] (by rfl) (by rfl) (there_mid HZ5.out (by simp)) (by kernel_rfl) (by kernel_rfl) ?_
    obtain ⟨s1', s2'⟩ := set_all HZ5.out [.int .u8 tb.x0, .int .u8 tb.x1, .int .u8 tb.x2, .int .u8 tb.x3, .int .u8 tb.x4, .int .u8 tb.x5, .int .u8 tb.x6, .int .u8 tb.x7, .slice A4 nk c4, .int .i64 s0, .int .i64 s1, .slice none 0 0, .slice none 0 0] rfl
    have HB6 := Lib.hid (HB5.out.grown s2' HB5.out.size (fun k hk => by injection hk with hk; omega))
    refine hK.out _ _ HB6.out (fun _ => ?_)
    clear hK K
    simp only [Act.put]
    refine wpAnyH_done (by kernel_rfl) ?_ _
    go_wp2_with fail
    go_meet
    exact ⟨w4.heap.size, A4, c4, rfl, s1', HO5.out.kept s2' (.inr fun e => own_ne HO5.out HZ5.out (by decide) e.symm), HB6.out, by omega⟩
   ·rw [if_pos (by kernel_rfl)]
    go_simp
    have hza := HBa.out.size
    have HBb := Lib.hid (HBa.out.alloc HBa.out.size (.cells #[.int .u8 0, .int .u8 0, .int .u8 0, .int .u8 0, .int .u8 0, .int .u8 0, .int .u8 0, .int .u8 0, .slice none 0 0, .int .i64 0, .int .i64 0, .slice none 0 0, .slice none 0 0] 65))
    have HZb : Hid ((wa.alloc (.cells #[.int .u8 0, .int .u8 0, .int .u8 0, .int .u8 0, .int .u8 0, .int .u8 0, .int .u8 0, .int .u8 0, .slice none 0 0, .int .i64 0, .int .i64 0, .slice none 0 0, .slice none 0 0] 65)).heap[wa.heap.size]? = some (.cells #[.int .u8 0, .int .u8 0, .int .u8 0, .int .u8 0, .int .u8 0, .int .u8 0, .int .u8 0, .int .u8 0, .slice none 0 0, .int .i64 0, .int .i64 0, .slice none 0 0, .slice none 0 0] 65)) := heap_alloc_new _ _
    have HOb := Lib.hid (HOa.out.alloc (.cells #[.int .u8 0, .int .u8 0, .int .u8 0, .int .u8 0, .int .u8 0, .int .u8 0, .int .u8 0, .int .u8 0, .slice none 0 0, .int .i64 0, .int .i64 0, .slice none 0 0, .slice none 0 0] 65))
    have HRb := Lib.hid (HRa.out.alloc (by have := HBa.out.size; omega) (.cells #[.int .u8 0, .int .u8 0, .int .u8 0, .int .u8 0, .int .u8 0, .int .u8 0, .int .u8 0, .int .u8 0, .slice none 0 0, .int .i64 0, .int .i64 0, .slice none 0 0, .slice none 0 0] 65))
    clear HBa HOa HRa
    generalize wa.alloc (.cells #[.int .u8 0, .int .u8 0, .int .u8 0, .int .u8 0, .int .u8 0, .int .u8 0, .int .u8 0, .int .u8 0, .slice none 0 0, .int .i64 0, .int .i64 0, .slice none 0 0, .slice none 0 0] 65) = wb at *
    have HBa := HBb; have HZa := HZb; have HOa := HOb; have HRa := HRb
    clear HBb HZb HOb HRb
    refine hK.out _ _ HBa.out (fun _ => ?_)
    clear hK K
    try simp only [Act.put, sT]
    refine wpAnyH_ready (rs := [3]) (by kernel_rfl) (by simp) ?_
    refine AllReadyH.cons rfl (fun K hK => ?_) AllReadyH.nil
    rw [if_pos (by kernel_rfl)]
    try simp only [List.getElem_toArray, List.getElem_cons_zero, List.getElem_cons_succ]
    refine op_append_rdg wb (by rfl) (.tmp 31) (.tmp 32) 63 (by rfl) w0.heap.size 26 i0 (.agg #[.int .u8 0, .int .u8 0, .int .u8 0, .int .u8 0, .int .u8 0, .int .u8 0, .int .u8 0, .int .u8 0]) 8 8 Tryz.underlying63 HI.out rfl (by decide) _ 0 [] (by rfl) HOa.out _ Ak nk ck (flatD ks) (by rfl) HRa.out (flatD_oneR _) (by omega) (by omega) HBa.out.size ?_
    intro v4 w4 o4 b4 g4
    simp only [Nat.zero_add, List.nil_append] at o4
    obtain ⟨A4, c4, rfl⟩ := own_form o4
    have HO4 := Lib.hid o4
    have HB4 := Lib.hid (HBa.out.trans b4)
    have HZ5 := Lib.hid (block_grown HZa.out g4 (own_ne HOa.out HZa.out (by decide)))
    have HB5 := HB4
    have HO5 := HO4
    clear o4 b4 g4
    refine hK.out _ _ HB5.out (fun _ => ?_)
    clear hK K
    try simp only [Act.put, sT]
    refine takP 5 35 ?_ rfl (by kernel_rfl) (fun _ _ _ => id) ?hy (by assumption) ?_
    case hy => intro w' h; clear h; go_simp; try with_reducible rfl
    simp only [Act.put, sT]
    refine wpAnyH_ready (rs := [7]) (by kernel_rfl) (by simp) ?_
    refine AllReadyH.cons rfl (fun K hK => ?_) AllReadyH.nil
    rw [if_pos (by kernel_rfl)]
    try simp only [List.getElem_toArray, List.getElem_cons_zero, List.getElem_cons_succ]
    refine wp_store_mid 65 _ _ (by rfl) (wa.heap.size) (0) #[.int .u8 tb.x0, .int .u8 tb.x1, .int .u8 tb.x2, .int .u8 tb.x3, .int .u8 tb.x4, .int .u8 tb.x5, .int .u8 tb.x6, .int .u8 tb.x7, .slice A4 nk c4, .int .i64 s0, .int .i64 s1, .slice none 0 0, .slice none 0 0] (by rfl) (by rfl) (there_mid HZ5.out (by simp)) (by kernel_rfl) (by kernel_rfl) ?_
    obtain ⟨s1', s2'⟩ := set_all HZ5.out [.int .u8 tb.x0, .int .u8 tb.x1, .int .u8 tb.x2, .int .u8 tb.x3, .int .u8 tb.x4, .int .u8 tb.x5, .int .u8 tb.x6, .int .u8 tb.x7, .slice A4 nk c4, .int .i64 s0, .int .i64 s1, .slice none 0 0, .slice none 0 0] rfl
    have HB6 := Lib.hid (HB5.out.grown s2' HB5.out.size (fun k hk => by injection hk with hk; omega))
    refine hK.out _ _ HB6.out (fun _ => ?_)
    clear hK K
    simp only [Act.put]
    refine wpAnyH_done (by kernel_rfl) ?_ _
    go_wp2_with fail
    go_meet
    exact ⟨wa.heap.size, A4, c4, rfl, s1', HO5.out.kept s2' (.inr fun e => own_ne HO5.out HZ5.out (by decide) e.symm), HB6.out, by omega⟩
  ·rw [if_pos (by kernel_rfl)]
   go_simp
   have HBa : Hid (Below w0.heap.size w0 ((w0.alloc (.cells #[.int .u8 0, .int .u8 0, .int .u8 0, .int .u8 0, .int .u8 0, .int .u8 0, .int .u8 0, .int .u8 0, .slice none 0 0, .int .i64 0, .int .i64 0, .slice none 0 0, .slice none 0 0] 65)).drew)) := Lib.hid (((Below.refl _ _).alloc (Nat.le_refl _) _).drew)
   have HZa : Hid (((w0.alloc (.cells #[.int .u8 0, .int .u8 0, .int .u8 0, .int .u8 0, .int .u8 0, .int .u8 0, .int .u8 0, .int .u8 0, .slice none 0 0, .int .i64 0, .int .i64 0, .slice none 0 0, .slice none 0 0] 65)).drew).heap[w0.heap.size]? = some (.cells #[.int .u8 0, .int .u8 0, .int .u8 0, .int .u8 0, .int .u8 0, .int .u8 0, .int .u8 0, .int .u8 0, .slice none 0 0, .int .i64 0, .int .i64 0, .slice none 0 0, .slice none 0 0] 65)) := Lib.hid (heap_alloc_new w0 _)
   have HRa := Lib.hid ((HR0.out.alloc (Nat.le_refl _) (.cells #[.int .u8 0, .int .u8 0, .int .u8 0, .int .u8 0, .int .u8 0, .int .u8 0, .int .u8 0, .int .u8 0, .slice none 0 0, .int .i64 0, .int .i64 0, .slice none 0 0, .slice none 0 0] 65)).drew)
   have hza : w0.heap.size + 1 ≤ ((w0.alloc (.cells #[.int .u8 0, .int .u8 0, .int .u8 0, .int .u8 0, .int .u8 0, .int .u8 0, .int .u8 0, .int .u8 0, .slice none 0 0, .int .i64 0, .int .i64 0, .slice none 0 0, .slice none 0 0] 65)).drew).heap.size := by simp
   generalize (w0.alloc (.cells #[.int .u8 0, .int .u8 0, .int .u8 0, .int .u8 0, .int .u8 0, .int .u8 0, .int .u8 0, .int .u8 0, .slice none 0 0, .int .i64 0, .int .i64 0, .slice none 0 0, .slice none 0 0] 65)).drew = wa at *
   refine hK.out _ _ HBa.out (fun _ => ?_)
   clear hK K
   try simp only [Act.put, sT]
   refine wpAnyH_ready (rs := [1]) (by kernel_rfl) (by simp) ?_
   refine AllReadyH.cons rfl (fun K hK => ?_) AllReadyH.nil
   rw [if_pos (by kernel_rfl)]
   try simp only [List.getElem_toArray, List.getElem_cons_zero, List.getElem_cons_succ]
   refine step_emptyR i0 _ _ rfl Tryz.underlying63 HI.out.1 ?_
   have HBb := Lib.hid (HBa.out.alloc HBa.out.size (.cells #[] 26))
   have HZb := Lib.hid (block_alloc HZa.out (.cells #[] 26))
   have HOb := Lib.hid (own_emptyR wa 26 8 w0.heap.size (by omega))
   have HRb := Lib.hid (HRa.out.alloc (by have := HBa.out.size; omega) (.cells #[] 26))
   clear HBa HZa HRa
   generalize wa.alloc (.cells #[] 26) = wb at *
   have HBa := HBb; have HZa := HZb; have HOa := HOb; have HRa := HRb
   clear HBb HZb HOb HRb
   refine hK.out _ _ HBa.out (fun _ => ?_)
   clear hK K
   try simp only [Act.put, sT]
   refine wpAnyH_ready (rs := [3]) (by kernel_rfl) (by simp) ?_
   refine AllReadyH.cons rfl (fun K hK => ?_) AllReadyH.nil
   rw [if_pos (by kernel_rfl)]
   try simp only [List.getElem_toArray, List.getElem_cons_zero, List.getElem_cons_succ]
   refine op_append_rdg wb (by rfl) (.tmp 31) (.tmp 32) 63 (by rfl) w0.heap.size 26 i0 (.agg #[.int .u8 0, .int .u8 0, .int .u8 0, .int .u8 0, .int .u8 0, .int .u8 0, .int .u8 0, .int .u8 0]) 8 8 Tryz.underlying63 HI.out rfl (by decide) _ 0 [] (by rfl) HOa.out _ Ak nk ck (flatD ks) (by rfl) HRa.out (flatD_oneR _) (by omega) (by omega) HBa.out.size ?_
   intro v4 w4 o4 b4 g4
   simp only [Nat.zero_add, List.nil_append] at o4
   obtain ⟨A4, c4, rfl⟩ := own_form o4
   have HO4 := Lib.hid o4
   have HB4 := Lib.hid (HBa.out.trans b4)
   have HZ5 := Lib.hid (block_grown HZa.out g4 (own_ne HOa.out HZa.out (by decide)))
   have HB5 := HB4
   have HO5 := HO4
   clear o4 b4 g4
   refine hK.out _ _ HB5.out (fun _ => ?_)
   clear hK K
   try simp only [Act.put, sT]
   refine takP 5 35 ?_ rfl (by kernel_rfl) (fun _ _ _ => id) ?hy (by assumption) ?_
   case hy => intro w' h; clear h; go_simp; try with_reducible rfl
   simp only [Act.put, sT]
   refine wpAnyH_ready (rs := [7]) (by kernel_rfl) (by simp) ?_
   refine AllReadyH.cons rfl (fun K hK => ?_) AllReadyH.nil
   rw [if_pos (by kernel_rfl)]
   try simp only [List.getElem_toArray, List.getElem_cons_zero, List.getElem_cons_succ]
   refine wp_store_mid 65 _ _ (by rfl) (w0.heap.size) (0) #[.int .u8 tb.x0, .int .u8 tb.x1, .int .u8 tb.x2, .int .u8 tb.x3, .int .u8 tb.x4, .int .u8 tb.x5, .int .u8 tb.x6, .int .u8 tb.x7, .slice A4 nk c4, .int .i64 s0, .int .i64 s1, .slice none 0 0, .slice none 0 0] (by rfl) (by rfl) (there_mid HZ5.out (by simp)) (by kernel_rfl) (by kernel_rfl) ?_
   obtain ⟨s1', s2'⟩ := set_all HZ5.out [.int .u8 tb.x0, .int .u8 tb.x1, .int .u8 tb.x2, .int .u8 tb.x3, .int .u8 tb.x4, .int .u8 tb.x5, .int .u8 tb.x6, .int .u8 tb.x7, .slice A4 nk c4, .int .i64 s0, .int .i64 s1, .slice none 0 0, .slice none 0 0] rfl
   have HB6 := Lib.hid (HB5.out.grown s2' HB5.out.size (fun k hk => by injection hk with hk; omega))
   refine hK.out _ _ HB6.out (fun _ => ?_)
   clear hK K
   simp only [Act.put]
   refine wpAnyH_done (by kernel_rfl) ?_ _
   go_wp2_with fail
   go_meet
   exact ⟨w0.heap.size, A4, c4, rfl, s1', HO5.out.kept s2' (.inr fun e => own_ne HO5.out HZ5.out (by decide) e.symm), HB6.out, by omega⟩
 case rest =>
  obtain ⟨pb, Ax, cx, rfl, hP, hO, hB, hpb⟩ := hcut
  have HP := Lib.hid hP; have HO := Lib.hid hO; have HB := Lib.hid hB
  obtain ⟨m, hm⟩ : ∃ m, nk - 1 = m := ⟨_, rfl⟩
  have hm19 : m ≤ 19 := by omega
  obtain ⟨nI, hnI⟩ : ∃ z : Int, (nk : Int) - 1 = z := ⟨_, rfl⟩
  have hnm : ∀ k : Nat, k < m → nI = (m : Int) := fun k hk => by omega
  have hnn : ¬ ((m : Int) < nI) := by omega
  have hnb1 : -1 ≤ nI := by omega
  have hnb2 : nI ≤ 19 := by omega
  have Hm := Lib.hid hm; have Hnm := Lib.hid hnm; have Hnn := Lib.hid hnn
  clear hm hP hO hB hnm hnn
  obtain ⟨i1, hi, hz0, hz1, hz2⟩ := info_parts info_intV
  have HJ := Lib.hid (And.intro hi (And.intro hz0 (And.intro hz1 hz2))); clear hi hz0 hz1 hz2
  have hpbc := block_lt HP.out
  go_wp2_with fail
  go_loopw [14] (fun i w9 => ∃ (k : Nat) (An : Option Addr) (cn : Nat) (Af : Option Addr) (cf : Nat), k ≤ m ∧ i = .int .i64 k ∧ Hid (w9.heap[pb]? = some (.cells #[.int .u8 tb.x0, .int .u8 tb.x1, .int .u8 tb.x2, .int .u8 tb.x3, .int .u8 tb.x4, .int .u8 tb.x5, .int .u8 tb.x6, .int .u8 tb.x7, .slice Ax nk cx, .int .i64 s0, .int .i64 s1, .slice An k cn, .slice Af k cf] 65 (0, 0))) ∧ Hid (w9.ownsRow wc.heap.size 3 1 (.slice An k cn) k (ivs ((List.range k).map fun (i : Nat) => last + ((m : Nat) - (i : Int)) * wn))) ∧ Hid (w9.ownsRow wc.heap.size 3 1 (.slice Af k cf) k (ivs ((List.range k).map fun (i : Nat) => last + ((i : Int) + 1) * wn))) ∧ Hid (Ap (.slice An k cn) (.slice Af k cf)) ∧ Hid (wc.grownBy w9 (some pb))) (fun i _ => m - (RowKit.intOf i).toNat)
  case atStart => exact ⟨0, none, 0, none, 0, by omega, rfl, HP, Lib.hid (World.ownsRow_nil _ _ _ _), Lib.hid (World.ownsRow_nil _ _ _ _), Lib.hid (Ap.nil _), Lib.hid (World.grownBy.refl _ _)⟩
  case round =>
   obtain ⟨k, An, cn, Af, cf, hk, rfl, HPk, HOn, HOf, Hap, Hg⟩ := hrel
   by_cases hlt : k < m
   ·obtain rfl := Hnm.out k hlt
    have hd1 : decide ((k : Int) < (m : Int)) = true := decide_eq_true (by omega)
    have hki : (k : Int) < (m : Int) := by omega
    have hp1 : 0 ≤ ((m : Int) - (k : Int)) * wn ∧ ((m : Int) - (k : Int)) * wn ≤ 19 * 1048576 := ⟨Int.mul_nonneg (by omega) (by omega), Int.le_trans (Int.mul_le_mul_of_nonneg_right (show (m : Int) - (k : Int) ≤ 19 by omega) (by omega)) (Int.mul_le_mul_of_nonneg_left hwn.2 (by omega))⟩
    have hp2 : 0 ≤ ((k : Int) + 1) * wn ∧ ((k : Int) + 1) * wn ≤ 19 * 1048576 := ⟨Int.mul_nonneg (by omega) (by omega), Int.le_trans (Int.mul_le_mul_of_nonneg_right (show (k : Int) + 1 ≤ 19 by omega) (by omega)) (Int.mul_le_mul_of_nonneg_left hwn.2 (by omega))⟩
    obtain ⟨hp10, hp11⟩ := hp1
    obtain ⟨hp20, hp21⟩ := hp2
    obtain ⟨hw1, hw2⟩ := hwn
    obtain ⟨hl1, hl2⟩ := hla
    have hgs := Hg.out.size
    have z := block_cell HPk.out
    have z0 := z 0; have z1 := z 1; have z2 := z 2; have z3 := z 3; have z4 := z 4; have z5 := z 5; have z6 := z 6; have z7 := z 7; have z8 := z 8; have z9 := z 9; have z10 := z 10; have z11 := z 11; have z12 := z 12
    simp at z0 z1 z2 z3 z4 z5 z6 z7 z8 z9 z10 z11 z12
    clear z
    have zf := block_free HPk.out
    have hN : Hid ((List.range (k + 1)).map (fun (i : Nat) => last + ((m : Nat) - (i : Int)) * wn) = (List.range k).map (fun (i : Nat) => last + ((m : Nat) - (i : Int)) * wn) ++ [last + ((m : Nat) - (k : Int)) * wn]) := by show _ = _; rw [List.range_succ, List.map_append]; rfl
    have hF2 : Hid ((List.range (k + 1)).map (fun (i : Nat) => last + ((i : Int) + 1) * wn) = (List.range k).map (fun (i : Nat) => last + ((i : Int) + 1) * wn) ++ [last + ((k : Int) + 1) * wn]) := by show _ = _; rw [List.range_succ, List.map_append]; rfl
    go_upto_region 11 with (at_builtin; go_must (refine append_at wr (by rfl) _ _ 30 (by rfl) wc.heap.size 3 i1 (.int .i64 0) 1 8 Tryz.underlying30 HJ.out rfl (by decide) _ _ _ (by rfl) HOn.out 1 1 #[.int .i64 (last + ((m : Int) - (k : Int)) * wn)] 3 (by simp [Act.eval]) rfl (by simp [Value.oneCell']) (by omega) (by omega) hgs ?_; intro v7 w7 own7 bel7 gr7 at7; obtain ⟨A7, c7, rfl⟩ := own_form own7; have O7 := Lib.hid own7; have HP7 := Lib.hid (block_grown (block_alloc HPk.out (.cells #[.int .i64 (last + ((m : Int) - (k : Int)) * wn)] 3)) gr7 (own_ne HOn.out HPk.out (by decide))); have HF7 := Lib.hid ((World.ownsRow.alloc HOf.out (.cells #[.int .i64 (last + ((m : Int) - (k : Int)) * wn)] 3)).kept gr7 (Hap.out.symm).ne); have Hap7 := Lib.hid (Ap.symm (Ap.grown (Hap.out.symm) HOf.out at7)); have GR7 := Lib.hid gr7; clear own7 bel7 gr7 at7 z0 z1 z2 z3 z4 z5 z6 z7 z8 z9 z10 z11 z12 zf; obtain ⟨zf, z0, z1, z2, z3, z4, z5, z6, z7, z8, z9, z10, z11, z12⟩ := free13 HP7.out))
    have h8 := Joins.block_setCell (i := 11) HP7.out (.slice A7 (k + 1) c7)
    have g8 := pgrown_set (w := w7) pb 11 (.slice A7 (k + 1) c7)
    simp at h8
    have HP8 := Lib.hid h8
    have O8 := Lib.hid (O7.out.kept g8 (.inr fun e => own_ne O7.out HP7.out (by decide) e.symm))
    have HF8 := Lib.hid (HF7.out.kept g8 (.inr fun e => own_ne HF7.out HP7.out (by decide) e.symm))
    have G8 := Lib.hid g8
    clear h8 g8 zf z0 z1 z2 z3 z4 z5 z6 z7 z8 z9 z10 z11 z12
    have hgs7 : wc.heap.size ≤ w7.heap.size := by have := GR7.out.size; rw [World.size_alloc] at this; omega
    have hgs8 : wc.heap.size ≤ (w7.setCell ⟨pb, 11, none⟩ (.slice A7 (k + 1) c7)).heap.size := by simpa using hgs7
    generalize w7.setCell ⟨pb, 11, none⟩ (.slice A7 (k + 1) c7) = w8 at *
    obtain ⟨zf, z0, z1, z2, z3, z4, z5, z6, z7, z8, z9, z10, z11, z12⟩ := free13 HP8.out
    go_upto_region 9 with (at_builtin; go_must (refine append_at w8 (by rfl) _ _ 30 (by rfl) wc.heap.size 3 i1 (.int .i64 0) 1 8 Tryz.underlying30 HJ.out rfl (by decide) _ _ _ (by rfl) HF8.out 1 1 #[.int .i64 (last + ((k : Int) + 1) * wn)] 3 (by simp [Act.eval]) rfl (by simp [Value.oneCell']) (by omega) (by omega) hgs8 ?_; intro v9 w9 own9 bel9 gr9 at9; obtain ⟨A9, c9, rfl⟩ := own_form own9; have O9 := Lib.hid own9; have HP9 := Lib.hid (block_grown (block_alloc HP8.out (.cells #[.int .i64 (last + ((k : Int) + 1) * wn)] 3)) gr9 (own_ne HF8.out HP8.out (by decide))); have HN9 := Lib.hid ((World.ownsRow.alloc O8.out (.cells #[.int .i64 (last + ((k : Int) + 1) * wn)] 3)).kept gr9 (Hap7.out).ne); have Hap9 := Lib.hid (Ap.grown Hap7.out O8.out at9); have GR9 := Lib.hid gr9; clear own9 bel9 gr9 at9 z0 z1 z2 z3 z4 z5 z6 z7 z8 z9 z10 z11 z12 zf; obtain ⟨zf, z0, z1, z2, z3, z4, z5, z6, z7, z8, z9, z10, z11, z12⟩ := free13 HP9.out))
    have h10 := Joins.block_setCell (i := 12) HP9.out (.slice A9 (k + 1) c9)
    have g10 := pgrown_set (w := w9) pb 12 (.slice A9 (k + 1) c9)
    simp at h10
    have HP10 := Lib.hid h10
    have O10 := Lib.hid (O9.out.kept g10 (.inr fun e => own_ne O9.out HP9.out (by decide) e.symm))
    have HN10 := Lib.hid (HN9.out.kept g10 (.inr fun e => own_ne HN9.out HP9.out (by decide) e.symm))
    have HG10 : Hid (wc.grownBy (w9.setCell ⟨pb, 12, none⟩ (.slice A9 (k + 1) c9)) (some pb)) :=
     Lib.hid ((grown_row (grown_alloc ((grown_row (grown_alloc Hg.out _) GR7.out (fun g hg => (HOn.out.lt g hg).1)).trans G8.out) _) GR9.out (fun g hg => (HF8.out.lt g hg).1)).trans g10)
    clear h10 g10
    go_wp2
    go_roundw
    case rel => exact ⟨k + 1, A7, c7, A9, c9, hlt, by go_num, HP10, Lib.hid (by rw [hN.out, ivs_append]; exact HN10.out), Lib.hid (by rw [hF2.out, ivs_append]; exact O10.out), Hap9, HG10⟩
    case measure => simp [RowKit.intOf]; omega
   ·have hkn : k = m := by omega
    subst hkn
    have hn6 : nk ≤ 20 := hn
    have hd1 : decide ((k : Int) < nI) = false := decide_eq_false (by have := Hnn.out; omega)
    obtain ⟨hgb, hgk⟩ : Below w0.heap.size w0 wr ∧ wr.ownsRow w0.heap.size 26 8 (.slice Ax nk cx) nk (flatD ks) := by
     refine ⟨HB.out.grown Hg.out HB.out.size (fun g hg => by cases hg; exact hpb), HO.out.kept Hg.out (.inr fun e => own_ne HO.out HP.out (by decide) e.symm)⟩
    have HB9 := Lib.hid hgb; have HK9 := Lib.hid hgk
    clear hgb hgk
    have Hd9 : Hid ((Pl.mk_ tb ks s0 s1 last wn).At Ax nk cx An k Af k wr) := by
     have e1 : ks.length - 1 = k := by rw [Hl.out, Hm.out]
     refine ⟨Rd.of_own HK9.out, ?_, ?_, by omega, by omega, by omega, own_cap HK9.out⟩
     ·show Rd _ _ _ _ _ (ivs ((List.range (ks.length - 1)).map _))
      rw [e1]; exact Rd.of_own HOn.out
     ·show Rd _ _ _ _ _ (ivs ((List.range (ks.length - 1)).map _))
      rw [e1]; exact Rd.of_own HOf.out
    have HX9 := Lib.hid (block_below HX2.out HB9.out (by have := Hz.out; omega))
    have hpw := block_lt HPk.out
    have He0 : Hid ((Pl.mk_ tb ks s0 s1 last wn).check wn = 0 → Pl.new tb ks s0 s1 last wn = (0, Pl.mk_ tb ks s0 s1 last wn)) := by show _ → _; intro h; rw [Hnew.out, if_pos h]
    have He1 : Hid ((Pl.mk_ tb ks s0 s1 last wn).check wn ≠ 0 → Pl.new tb ks s0 s1 last wn = ((Pl.mk_ tb ks s0 s1 last wn).check wn, pl0)) := by show _ → _; intro h; rw [Hnew.out, if_neg h]
    go_upto_region 12 with fail
    refine wp_region_list ?_
    refine wpList_load_mid (by rfl) 65 _ (by rfl) pb 0 (by rfl) [.int .u8 tb.x0, .int .u8 tb.x1, .int .u8 tb.x2, .int .u8 tb.x3, .int .u8 tb.x4, .int .u8 tb.x5, .int .u8 tb.x6, .int .u8 tb.x7, .slice Ax nk cx, .int .i64 s0, .int .i64 s1, .slice An k cn, .slice Af k cf] _ (range_all HPk.out) Tryz.underlying65 rfl (by kernel_rfl) ?_
    simp only [Act.put, sT]
    go_wp2_with fail
    refine (checkr_any (Pl.mk_ tb ks s0 s1 last wn) Ax nk cx An k cn Af k cf wn wr Hd9.out).mono ?_
    rintro e w10 ⟨rfl, hb10⟩
    have HP10 := Lib.hid (block_below HPk.out hb10 hpw)
    have HX10 := Lib.hid (block_below HX9.out hb10 (by have := HB9.out.size; have := Hz.out; omega))
    have HK10 := Lib.hid (own_below HK9.out hb10); have HN10 := Lib.hid (own_below HOn.out hb10); have HF10 := Lib.hid (own_below HOf.out hb10)
    have HB10 := Lib.hid (HB9.out.trans (hb10.mono HB9.out.size))
    clear hb10
    by_cases hq : (Pl.mk_ tb ks s0 s1 last wn).check wn = 0
    ·have b1 : ((Pl.mk_ tb ks s0 s1 last wn).check wn != 0) = false := by simpa using hq
     have HE := Lib.hid (He0.out hq)
     clear hq
     go_upto_region 15 with fail
     refine wp_region_list ?_
     refine wpList_load_mid (by rfl) 65 _ (by rfl) pb 0 (by rfl) [.int .u8 tb.x0, .int .u8 tb.x1, .int .u8 tb.x2, .int .u8 tb.x3, .int .u8 tb.x4, .int .u8 tb.x5, .int .u8 tb.x6, .int .u8 tb.x7, .slice Ax nk cx, .int .i64 s0, .int .i64 s1, .slice An k cn, .slice Af k cf] _ (range_all HP10.out) Tryz.underlying65 rfl (by kernel_rfl) ?_
     simp only [Act.put, sT]
     refine wpList_store_mid (by rfl) 65 _ _ (by rfl) (w.heap.size + 2) 0 #[.int .u8 tb.x0, .int .u8 tb.x1, .int .u8 tb.x2, .int .u8 tb.x3, .int .u8 tb.x4, .int .u8 tb.x5, .int .u8 tb.x6, .int .u8 tb.x7, .slice Ax nk cx, .int .i64 s0, .int .i64 s1, .slice An k cn, .slice Af k cf] (by rfl) (by rfl) (there_mid HX10.out (by simp)) (by kernel_rfl) (by kernel_rfl) ?_
     obtain ⟨s1', s2'⟩ := set_all HX10.out [.int .u8 tb.x0, .int .u8 tb.x1, .int .u8 tb.x2, .int .u8 tb.x3, .int .u8 tb.x4, .int .u8 tb.x5, .int .u8 tb.x6, .int .u8 tb.x7, .slice Ax nk cx, .int .i64 s0, .int .i64 s1, .slice An k cn, .slice Af k cf] rfl
     have HS1 := Lib.hid s1'; have HS2 := Lib.hid s2'
     clear s1' s2'
     dsimp only
     generalize World.setCells _ _ _ [.int .u8 tb.x0, .int .u8 tb.x1, .int .u8 tb.x2, .int .u8 tb.x3, .int .u8 tb.x4, .int .u8 tb.x5, .int .u8 tb.x6, .int .u8 tb.x7, .slice Ax nk cx, .int .i64 s0, .int .i64 s1, .slice An k cn, .slice Af k cf] = w11 at *
     go_wp2
     refine bodyPost_ret (results_cellT 10 11 65 (w.heap.size + 2) #[.int .u8 tb.x0, .int .u8 tb.x1, .int .u8 tb.x2, .int .u8 tb.x3, .int .u8 tb.x4, .int .u8 tb.x5, .int .u8 tb.x6, .int .u8 tb.x7, .slice Ax nk cx, .int .i64 s0, .int .i64 s1, .slice An k cn, .slice Af k cf] _ _ _ rfl rfl HS1.out Tryz.underlying65 rfl (by kernel_rfl)) rfl ?_
     unfold GivesPr
     rw [HE.out]
     refine ⟨Ax, nk, cx, An, k, cn, Af, k, cf, rfl, ?_, ?_⟩
     ·have e1 : ks.length - 1 = k := by rw [Hl.out, Hm.out]
      have hk1 := HK10.out.kept HS2.out (.inr fun e => own_ne HK10.out HX10.out (by decide) e.symm)
      refine ⟨Rd.of_own hk1, ?_, ?_, by omega, by omega, by omega, own_cap hk1⟩
      ·show Rd _ _ _ _ _ (ivs ((List.range (ks.length - 1)).map _))
       rw [e1]; exact Rd.of_own (HN10.out.kept HS2.out (.inr fun e => own_ne HN10.out HX10.out (by decide) e.symm))
      ·show Rd _ _ _ _ _ (ivs ((List.range (ks.length - 1)).map _))
       rw [e1]; exact Rd.of_own (HF10.out.kept HS2.out (.inr fun e => own_ne HF10.out HX10.out (by decide) e.symm))
     ·exact Hw.out.trans ((HB10.out.mono Hw.out.size).grown HS2.out (by have := HB10.out.size; have := Hz.out; omega) (fun k hk => by cases hk; omega))
    ·have b1 : ((Pl.mk_ tb ks s0 s1 last wn).check wn != 0) = true := by simpa using hq
     have HE := Lib.hid (He1.out hq)
     clear hq
     go_upto_region 14 with fail
     refine wp_region_list ?_
     refine wpList_value (.agg #[.int .u8 0, .int .u8 0, .int .u8 0, .int .u8 0, .int .u8 0, .int .u8 0, .int .u8 0, .int .u8 0, .slice none 0 0, .int .i64 0, .int .i64 0, .slice none 0 0, .slice none 0 0]) (by kernel_rfl) (by kernel_rfl) ?_
     simp only [Act.put, sT]
     refine wpList_value (.int .i64 ((Pl.mk_ tb ks s0 s1 last wn).check wn)) (by kernel_rfl) (by kernel_rfl) ?_
     simp only [Act.put, sT]
     refine wpList_store_mid (by rfl) 65 _ _ (by rfl) (w.heap.size + 2) 0 #[.int .u8 0, .int .u8 0, .int .u8 0, .int .u8 0, .int .u8 0, .int .u8 0, .int .u8 0, .int .u8 0, .slice none 0 0, .int .i64 0, .int .i64 0, .slice none 0 0, .slice none 0 0] (by rfl) (by rfl) (there_mid HX10.out (by simp)) (by kernel_rfl) (by kernel_rfl) ?_
     obtain ⟨s1', s2'⟩ := set_all HX10.out [.int .u8 0, .int .u8 0, .int .u8 0, .int .u8 0, .int .u8 0, .int .u8 0, .int .u8 0, .int .u8 0, .slice none 0 0, .int .i64 0, .int .i64 0, .slice none 0 0, .slice none 0 0] rfl
     have HS1 := Lib.hid s1'; have HS2 := Lib.hid s2'
     clear s1' s2'
     dsimp only
     generalize World.setCells _ _ _ [.int .u8 0, .int .u8 0, .int .u8 0, .int .u8 0, .int .u8 0, .int .u8 0, .int .u8 0, .int .u8 0, .slice none 0 0, .int .i64 0, .int .i64 0, .slice none 0 0, .slice none 0 0] = w11 at *
     go_wp2
     refine bodyPost_ret (results_cellT 10 11 65 (w.heap.size + 2) #[.int .u8 0, .int .u8 0, .int .u8 0, .int .u8 0, .int .u8 0, .int .u8 0, .int .u8 0, .int .u8 0, .slice none 0 0, .int .i64 0, .int .i64 0, .slice none 0 0, .slice none 0 0] _ _ _ rfl rfl HS1.out Tryz.underlying65 rfl (by kernel_rfl)) rfl ?_
     unfold GivesPr
     rw [HE.out]
     exact ⟨none, 0, 0, none, 0, 0, none, 0, 0, rfl, pl0_at _, Hw.out.trans ((HB10.out.mono Hw.out.size).grown HS2.out (by have := HB10.out.size; have := Hz.out; omega) (fun k hk => by cases hk; omega))⟩
theorem rd_markP (w : World) (t : TypeId) (fz : Nat × Nat) (cs : Array Value) (l : List Nat) (h : cs.toList = bv l) : Rd (w.alloc (.cells cs t fz)) (w.alloc (.cells cs t fz)).heap.size 1 (some ⟨w.heap.size, 0, none⟩) l.length (bv l) := by
 refine ⟨by rw [bv_len]; omega, fun _ => ⟨w.heap.size, 0, rfl, by simp, fun j u hu => ?_⟩⟩
 rw [block_cell (heap_alloc_new w (.cells cs t fz)), ← h] at *
 simpa using hu
set_option maxRecDepth 100000 in
set_option maxHeartbeats 8000000 in
theorem digestR_any (p : Pl) (Ak : Option Addr) (nk ck : Nat) (An : Option Addr) (nn cn : Nat) (Af : Option Addr) (nf cf : Nat) (w : World) (h : p.At Ak nk ck An nn Af nf w) (ht : p.tb.ok) (hk : ∀ d ∈ p.ks, d.ok) :
  Calls Tryz.prog 33 #[.agg #[.int .u8 p.tb.x0, .int .u8 p.tb.x1, .int .u8 p.tb.x2, .int .u8 p.tb.x3, .int .u8 p.tb.x4, .int .u8 p.tb.x5, .int .u8 p.tb.x6, .int .u8 p.tb.x7, .slice Ak nk ck, .int .i64 p.s0, .int .i64 p.s1, .slice An nn cn, .slice Af nf cf]] w fun e w' => e = .returned (.agg #[.int .u8 (p.digest).x0, .int .u8 (p.digest).x1, .int .u8 (p.digest).x2, .int .u8 (p.digest).x3, .int .u8 (p.digest).x4, .int .u8 (p.digest).x5, .int .u8 (p.digest).x6, .int .u8 (p.digest).x7]) ∧ Below w.heap.size w w' := by
 have HX0 : Hid (((w.alloc (.cells #[.int .u8 p.tb.x0, .int .u8 p.tb.x1, .int .u8 p.tb.x2, .int .u8 p.tb.x3, .int .u8 p.tb.x4, .int .u8 p.tb.x5, .int .u8 p.tb.x6, .int .u8 p.tb.x7, .slice Ak nk ck, .int .i64 p.s0, .int .i64 p.s1, .slice An nn cn, .slice Af nf cf] 65)).alloc (.cells #[.int .u8 0, .int .u8 0, .int .u8 0, .int .u8 0, .int .u8 0, .int .u8 0, .int .u8 0, .int .u8 0] 26)).heap[w.heap.size]? = some (.cells #[.int .u8 p.tb.x0, .int .u8 p.tb.x1, .int .u8 p.tb.x2, .int .u8 p.tb.x3, .int .u8 p.tb.x4, .int .u8 p.tb.x5, .int .u8 p.tb.x6, .int .u8 p.tb.x7, .slice Ak nk ck, .int .i64 p.s0, .int .i64 p.s1, .slice An nn cn, .slice Af nf cf] 65 (0, 0))) := block_alloc (heap_alloc_new _ _) _
 have HY0 : Hid (((w.alloc (.cells #[.int .u8 p.tb.x0, .int .u8 p.tb.x1, .int .u8 p.tb.x2, .int .u8 p.tb.x3, .int .u8 p.tb.x4, .int .u8 p.tb.x5, .int .u8 p.tb.x6, .int .u8 p.tb.x7, .slice Ak nk ck, .int .i64 p.s0, .int .i64 p.s1, .slice An nn cn, .slice Af nf cf] 65)).alloc (.cells #[.int .u8 0, .int .u8 0, .int .u8 0, .int .u8 0, .int .u8 0, .int .u8 0, .int .u8 0, .int .u8 0] 26)).heap[w.heap.size + 1]? = some (.cells #[.int .u8 0, .int .u8 0, .int .u8 0, .int .u8 0, .int .u8 0, .int .u8 0, .int .u8 0, .int .u8 0] 26 (0, 0))) := alloc_at (by simp)
 have Hb0 : Hid (Below w.heap.size w ((w.alloc (.cells #[.int .u8 p.tb.x0, .int .u8 p.tb.x1, .int .u8 p.tb.x2, .int .u8 p.tb.x3, .int .u8 p.tb.x4, .int .u8 p.tb.x5, .int .u8 p.tb.x6, .int .u8 p.tb.x7, .slice Ak nk ck, .int .i64 p.s0, .int .i64 p.s1, .slice An nn cn, .slice Af nf cf] 65)).alloc (.cells #[.int .u8 0, .int .u8 0, .int .u8 0, .int .u8 0, .int .u8 0, .int .u8 0, .int .u8 0, .int .u8 0] 26))) := below_two _ _ _
 have Hz0 : Hid (((w.alloc (.cells #[.int .u8 p.tb.x0, .int .u8 p.tb.x1, .int .u8 p.tb.x2, .int .u8 p.tb.x3, .int .u8 p.tb.x4, .int .u8 p.tb.x5, .int .u8 p.tb.x6, .int .u8 p.tb.x7, .slice Ak nk ck, .int .i64 p.s0, .int .i64 p.s1, .slice An nn cn, .slice Af nf cf] 65)).alloc (.cells #[.int .u8 0, .int .u8 0, .int .u8 0, .int .u8 0, .int .u8 0, .int .u8 0, .int .u8 0, .int .u8 0] 26)).heap.size = w.heap.size + 2) := by show _ = _; simp
 have H := Lib.hid h
 have Hl := Lib.hid h.k.dlenD; have Hln := Lib.hid h.n.ilen; have Hlf := Lib.hid h.f.ilen
 have HT := Lib.hid ht; have HK := Lib.hid hk
 have hbk := h.bk; have hbn := h.bn; have hbf := h.bf
 clear h ht hk
 obtain ⟨i0, hi, hz0, hz1, hz2⟩ := info_parts info_u8
 have HI := Lib.hid (And.intro hi (And.intro hz0 (And.intro hz1 hz2))); clear hi hz0 hz1 hz2
 go_enter Tryz.func33, Tryz.ntmps33
 go_upto_region 1 with fail
 generalize (w.alloc (.cells #[.int .u8 p.tb.x0, .int .u8 p.tb.x1, .int .u8 p.tb.x2, .int .u8 p.tb.x3, .int .u8 p.tb.x4, .int .u8 p.tb.x5, .int .u8 p.tb.x6, .int .u8 p.tb.x7, .slice Ak nk ck, .int .i64 p.s0, .int .i64 p.s1, .slice An nn cn, .slice Af nf cf] 65)).alloc (.cells #[.int .u8 0, .int .u8 0, .int .u8 0, .int .u8 0, .int .u8 0, .int .u8 0, .int .u8 0, .int .u8 0] 26) = w0 at *
 have kc := fun (u : World) (C : Array Value) (n c : Nat) => Lib.run_convert_bytes_const (P := Tryz.prog) u 46 5 C n c Tryz.underlying46 Tryz.underlying5
 have HRm := Lib.hid (rd_markP w0 5 (3, 4) #[.int .u8 119, .int .u8 97, .int .u8 121] wayT rfl)
 have HBm := Lib.hid ((Below.refl w0.heap.size w0).alloc (Nat.le_refl _) (.cells #[.int .u8 119, .int .u8 97, .int .u8 121] 5 (3, 4)))
 go_wp2_with fail
 generalize w0.alloc (.cells #[.int .u8 119, .int .u8 97, .int .u8 121] 5 (3, 4)) = wm at *
 refine (bytesr_any _ 3 3 wayT wm HRm.out (by omega)).mono ?_
 rintro e w1 ⟨A1, n1, c1, rfl, ho, hn, hb⟩
 have HO1 := Lib.hid (own_weak ho HBm.out.size); have HB1 := Lib.hid (HBm.out.trans (hb.mono HBm.out.size))
 have hl1 : n1 = 4 := by rw [hn]; rfl
 subst hl1
 clear ho hn hb HRm HBm kc
 have HX1 := Lib.hid (block_below HX0.out HB1.out (by rw [Hz0.out]; omega))
 have r := block_cell HX1.out
 have r0 := r 0; have r1 := r 1; have r2 := r 2; have r3 := r 3; have r4 := r 4; have r5 := r 5; have r6 := r 6; have r7 := r 7; have r8 := r 8; have r9 := r 9; have r10 := r 10; have r11 := r 11; have r12 := r 12
 simp at r0 r1 r2 r3 r4 r5 r6 r7 r8 r9 r10 r11 r12
 clear r
 go_wp2_with fail
 refine (rnum_any p.tb w1 HT.out).mono ?_
 rintro e w2 ⟨rfl, hb2⟩
 have HB2 := Lib.hid (HB1.out.trans (hb2.mono HB1.out.size)); have HO2 := Lib.hid (own_below HO1.out hb2)
 clear hb2 r0 r1 r2 r3 r4 r5 r6 r7 r8 r9 r10 r11 r12 HO1
 go_wp2_with fail
 refine (numr_any p.tb.num w2 (D8.num_lt HT.out)).mono ?_
 rintro e w3 ⟨A3, n3, c3, rfl, ho, hn, hb⟩
 have HBp := Lib.hid (HB2.out.trans (hb.mono HB2.out.size)); have HOp := Lib.hid (own_below HO2.out hb); have HNp := Lib.hid (Rd.of_own ho)
 have hl3 : n3 ≤ 11 := by rw [hn]; exact encN_len _
 have HN3 := Lib.hid hn
 have hsp := HBp.out.size
 clear ho hn hb HO2
 go_upto_region 3 with (at_builtin; go_must (refine wpList_append_rd w3 (by rfl) _ _ 46 (by rfl) w0.heap.size 5 i0 (.int .u8 0) 1 1 Tryz.underlying46 HI.out rfl (by decide) _ _ _ (by rfl) HOp.out _ _ _ _ _ (by rfl) HNp.out (bv_one _) (by omega) (by omega) hsp ?_); intro v4 w4 o4 b4; obtain ⟨A4, c4, rfl⟩ := own_form o4; rw [← bv_append] at o4; have HO4 := Lib.hid o4; have HB4 := Lib.hid (HBp.out.trans b4); clear o4 b4 HOp HNp HBp hsp)
 have HX4 := Lib.hid (block_below HX0.out HB4.out (by rw [Hz0.out]; omega))
 have r := block_cell HX4.out
 have r0 := r 0; have r1 := r 1; have r2 := r 2; have r3 := r 3; have r4 := r 4; have r5 := r 5; have r6 := r 6; have r7 := r 7; have r8 := r 8; have r9 := r 9; have r10 := r 10; have r11 := r 11; have r12 := r 12
 simp at r0 r1 r2 r3 r4 r5 r6 r7 r8 r9 r10 r11 r12
 clear r
 have hnki : (nk : Int) ≤ 1000000 := by omega
 go_wp2_with fail
 refine (numr_any nk w4 (by omega)).mono ?_
 rintro e w5 ⟨A5, n5, c5, rfl, ho, hn, hb⟩
 have HBp := Lib.hid (HB4.out.trans (hb.mono HB4.out.size)); have HOp := Lib.hid (own_below HO4.out hb); have HNp := Lib.hid (Rd.of_own ho)
 have hl5 : n5 ≤ 11 := by rw [hn]; exact encN_len _
 have hsp := HBp.out.size
 clear ho hn hb HO4 HB4 HX4 r0 r1 r2 r3 r4 r5 r6 r7 r8 r9 r10 r11 r12
 go_upto_region 4 with (at_builtin; go_must (refine wpList_append_rd w5 (by rfl) _ _ 46 (by rfl) w0.heap.size 5 i0 (.int .u8 0) 1 1 Tryz.underlying46 HI.out rfl (by decide) _ _ _ (by rfl) HOp.out _ _ _ _ _ (by rfl) HNp.out (bv_one _) (by omega) (by omega) hsp ?_); intro v6 w6 o6 b6; obtain ⟨A6, c6, rfl⟩ := own_form o6; rw [← bv_append] at o6; have HO6 := Lib.hid o6; have HB6 := Lib.hid (HBp.out.trans b6); clear o6 b6 HOp HNp HBp hsp)
 obtain ⟨m6, hm6⟩ : ∃ z : Nat, 4 + n3 + n5 = z := ⟨_, rfl⟩
 have hm26 : m6 ≤ 26 := by omega
 rw [hm6] at HO6
 rw [hm6]
 have Hhead : Hid (encB wayT ++ encN p.tb.num ++ encN nk = p.hd ++ encKs (p.ks.take 0)) := Lib.hid (by unfold Pl.hd encKs; rw [Hl.out]; simp)
 rw [Hhead.out] at HO6
 clear Hhead hm6
 go_wp2_with fail
 go_loopw [3, 4] (fun v i wr => ∃ (k m : Nat) (A' : Option Addr) (c' : Nat), k ≤ nk ∧ i = .int .i64 k ∧ v = .slice A' m c' ∧ Hid (m ≤ 26 + 11 * k) ∧ Hid (wr.ownsRow w0.heap.size 5 1 (.slice A' m c') m (bv (p.hd ++ encKs (p.ks.take k)))) ∧ Hid (Below w0.heap.size w0 wr)) (fun _ i _ => nk - (RowKit.intOf i).toNat)
 case atStart => exact ⟨0, m6, A6, c6, by omega, rfl, rfl, Lib.hid (by omega), HO6, HB6⟩
 case round =>
  obtain ⟨k, m, A', c', hk, rfl, rfl, Hm, HO, HB⟩ := hrel
  have HXr := Lib.hid (block_below HX0.out HB.out (by rw [Hz0.out]; omega))
  have r := block_cell HXr.out
  have r0 := r 0; have r1 := r 1; have r2 := r 2; have r3 := r 3; have r4 := r 4; have r5 := r 5; have r6 := r 6; have r7 := r 7; have r8 := r 8; have r9 := r 9; have r10 := r 10; have r11 := r 11; have r12 := r 12
  simp at r0 r1 r2 r3 r4 r5 r6 r7 r8 r9 r10 r11 r12
  clear r
  by_cases hlt : k < nk
  ·have hd1 : decide ((k : Int) < (nk : Int)) = true := decide_eq_true (by omega)
   have hki : (k : Int) < (nk : Int) := by omega
   obtain ⟨b, o, rfl, hbB, x0, x1, x2, x3, x4, x5, x6, x7⟩ := ((H.out.k.below Hb0.out (Nat.le_refl _)).below HB.out (by rw [Hz0.out]; omega)).di8v hlt
   have Htk := Lib.hid (encKs_take (l := p.ks) (k := k) (by rw [Hl.out]; exact hlt))
   have hok := HK.out (p.ks.getD k dz8) (by rw [List.getD_eq_getElem?_getD, List.getElem?_eq_getElem (by rw [Hl.out]; exact hlt)]; exact List.getElem_mem _)
   generalize p.ks.getD k dz8 = d at *
   have HOK := Lib.hid hok
   have hmb : m ≤ 20000000 := by have := Hm.out; omega
   clear hok
   go_wp2_with fail
   refine (rnum_any d wr HOK.out).mono ?_
   rintro e w2 ⟨rfl, hb2⟩
   have HB2 := Lib.hid (HB.out.trans (hb2.mono HB.out.size)); have HO2 := Lib.hid (own_below HO.out hb2)
   clear hb2 r0 r1 r2 r3 r4 r5 r6 r7 r8 r9 r10 r11 r12 x0 x1 x2 x3 x4 x5 x6 x7
   go_wp2_with fail
   refine (numr_any d.num w2 (D8.num_lt HOK.out)).mono ?_
   rintro e w3 ⟨A3, n3, c3, rfl, ho, hn, hb⟩
   have HBp := Lib.hid (HB2.out.trans (hb.mono HB2.out.size)); have HOp := Lib.hid (own_below HO2.out hb); have HNp := Lib.hid (Rd.of_own ho)
   have hl3 : n3 ≤ 11 := by rw [hn]; exact encN_len _
   have hsp := HBp.out.size
   clear ho hn hb HO2
   go_wp2_with (at_builtin; go_must (refine wpList_append_rd w3 (by rfl) _ _ 46 (by rfl) w0.heap.size 5 i0 (.int .u8 0) 1 1 Tryz.underlying46 HI.out rfl (by decide) _ _ _ (by rfl) HOp.out _ _ _ _ _ (by rfl) HNp.out (bv_one _) (by omega) (by omega) hsp ?_); intro v4 w4 o4 b4; obtain ⟨A4, c4, rfl⟩ := own_form o4; rw [← bv_append] at o4; have HO4 := Lib.hid o4; have HB4 := Lib.hid (HBp.out.trans b4); clear o4 b4 HOp HNp HBp hsp)
   go_roundw
   case rel => exact ⟨k + 1, m + n3, A4, c4, hlt, by go_num, rfl, Lib.hid (by have := Hm.out; omega), Lib.hid (by rw [Htk.out, ← List.append_assoc]; exact HO4.out), HB4⟩
   case measure => simp [RowKit.intOf]; omega
  ·obtain rfl : k = nk := by omega
   have hd1 : decide ((k : Int) < (k : Int)) = false := decide_eq_false (by omega)
   rw [List.take_of_length_le (show p.ks.length ≤ k by rw [Hl.out]; omega)] at HO
   have hmb : m ≤ 11000026 := by have := Hm.out; omega
   clear hlt
   go_upto_region 8 with fail
   obtain ⟨i1, hi, hz0, hz1, hz2⟩ := info_parts info_intV
   have HJ := Lib.hid (And.intro hi (And.intro hz0 (And.intro hz1 hz2))); clear hi hz0 hz1 hz2
   have hxs : w.heap.size < wr.heap.size := by have := HB.out.size; have := Hz0.out; omega
   have HBsz := Lib.hid HB.out.size
   have q9 : ∀ w', Below wr.heap.size wr w' → w'.cell? ⟨w.heap.size, 9, none⟩ = some (.int .i64 p.s0) := fun w' hw' => by have := block_cell (block_below HXr.out hw' hxs) 9; simpa using this
   have q10 : ∀ w', Below wr.heap.size wr w' → w'.cell? ⟨w.heap.size, 10, none⟩ = some (.int .i64 p.s1) := fun w' hw' => by have := block_cell (block_below HXr.out hw' hxs) 10; simpa using this
   have q11 : ∀ w', Below wr.heap.size wr w' → w'.cell? ⟨w.heap.size, 11, none⟩ = some (.slice An nn cn) := fun w' hw' => by have := block_cell (block_below HXr.out hw' hxs) 11; simpa using this
   have q12 : ∀ w', Below wr.heap.size wr w' → w'.cell? ⟨w.heap.size, 12, none⟩ = some (.slice Af nf cf) := fun w' hw' => by have := block_cell (block_below HXr.out hw' hxs) 12; simpa using this
   have HRn := Lib.hid ((H.out.n.below Hb0.out (Nat.le_refl _)).below HB.out (by rw [Hz0.out]; omega))
   have HRf := Lib.hid ((H.out.f.below Hb0.out (Nat.le_refl _)).below HB.out (by rw [Hz0.out]; omega))
   clear r0 r1 r2 r3 r4 r5 r6 r7 r8 r9 r10 r11 r12
   obtain ⟨w5, hw5⟩ : ∃ z : World, z = wr := ⟨_, rfl⟩
   subst hw5
   go_cut [5] (fun s wx => ∃ (AL : Option Addr) (cL : Nat), s = .slice AL (2 + nn + nf) cL ∧ wx.ownsRow w5.heap.size 3 1 (.slice AL (2 + nn + nf) cL) (2 + nn + nf) (ivs ([p.s0, p.s1] ++ p.nr ++ p.fr)) ∧ Below w5.heap.size w5 wx)
   case first =>
    refine wp_region_held_drew (S := fun w' => Below w5.heap.size w5 w') (by kernel_rfl) (Below.refl _ _).drew (fun hHeld => ?_)
    refine takP 0 39 ?_ rfl (by kernel_rfl) (fun _ _ _ => id) ?hy (by assumption) ?_
    case hy => intro w' h; clear h; go_simp; try with_reducible rfl
    simp only [Act.put, sT]
    refine takP 1 40 ?_ rfl (by kernel_rfl) (fun _ _ _ => id) ?hy (by assumption) ?_
    case hy => intro w' h; clear h; go_simp; try with_reducible rfl
    simp only [Act.put, sT]
    refine takP 2 41 ?_ rfl (by kernel_rfl) (fun _ _ _ => id) ?hy (by assumption) ?_
    case hy => intro w' h; have hx := q9 w' h; clear h; go_simp; try with_reducible rfl
    simp only [Act.put, sT]
    refine takP 3 42 ?_ rfl (by kernel_rfl) (fun _ _ _ => id) ?hy (by assumption) ?_
    case hy => intro w' h; clear h; go_simp; try with_reducible rfl
    simp only [Act.put, sT]
    refine takP 4 43 ?_ rfl (by kernel_rfl) (fun _ _ _ => id) ?hy (by assumption) ?_
    case hy => intro w' h; clear h; go_simp; try with_reducible rfl
    simp only [Act.put, sT]
    refine takP 5 44 ?_ rfl (by kernel_rfl) (fun _ _ _ => id) ?hy (by assumption) ?_
    case hy => intro w' h; have hx := q10 w' h; clear h; go_simp; try with_reducible rfl
    simp only [Act.put, sT]
    refine takP 7 46 ?_ rfl (by kernel_rfl) (fun _ _ _ => id) ?hy (by assumption) ?_
    case hy => intro w' h; clear h; go_simp; try with_reducible rfl
    simp only [Act.put, sT]
    refine takP 8 47 ?_ rfl (by kernel_rfl) (fun _ _ _ => id) ?hy (by assumption) ?_
    case hy => intro w' h; have hx := q11 w' h; clear h; go_simp; try with_reducible rfl
    simp only [Act.put, sT]
    refine takP 10 49 ?_ rfl (by kernel_rfl) (fun _ _ _ => id) ?hy (by assumption) ?_
    case hy => intro w' h; clear h; go_simp; try with_reducible rfl
    simp only [Act.put, sT]
    refine takP 11 50 ?_ rfl (by kernel_rfl) (fun _ _ _ => id) ?hy (by assumption) ?_
    case hy => intro w' h; have hx := q12 w' h; clear h; go_simp; try with_reducible rfl
    simp only [Act.put, sT]
    refine wpAnyH_ready (rs := [6]) (by kernel_rfl) (by simp) ?_
    refine AllReadyH.cons rfl (fun K hK => ?_) AllReadyH.nil
    rw [if_pos (by kernel_rfl)]
    try simp only [List.getElem_toArray, List.getElem_cons_zero, List.getElem_cons_succ]
    go_simp
    have HBa : Hid (Below w5.heap.size w5 ((w5.alloc (.cells #[.int .i64 p.s0, .int .i64 p.s1] 3)).drew)) := Lib.hid (((Below.refl _ _).alloc (Nat.le_refl _) _).drew)
    have HOa : Hid (((w5.alloc (.cells #[.int .i64 p.s0, .int .i64 p.s1] 3)).drew).ownsRow w5.heap.size 3 1 (.slice (some ⟨w5.heap.size, 0, none⟩) 2 2) 2 (ivs [p.s0, p.s1])) := Lib.hid ⟨rfl, .inr ⟨w5.heap.size, 2, #[.int .i64 p.s0, .int .i64 p.s1], rfl, Nat.le_refl _, heap_alloc_new w5 _, Nat.le_refl _, by simp [maxLen], rfl, rfl⟩⟩
    generalize (w5.alloc (.cells #[.int .i64 p.s0, .int .i64 p.s1] 3)).drew = wa at *
    refine hK.out _ _ HBa.out (fun _ => ?_)
    clear hK K
    try simp only [Act.put, sT]
    refine wpAnyH_ready (rs := [9]) (by kernel_rfl) (by simp) ?_
    refine AllReadyH.cons rfl (fun K hK => ?_) AllReadyH.nil
    rw [if_pos (by kernel_rfl)]
    try simp only [List.getElem_toArray, List.getElem_cons_zero, List.getElem_cons_succ]
    refine op_append_rdg wa (by rfl) (.tmp 45) (.tmp 47) 30 (by rfl) w5.heap.size 3 i1 (.int .i64 0) 1 8 Tryz.underlying30 HJ.out rfl (by decide) _ 2 _ (by rfl) HOa.out w5.heap.size An nn cn (ivs p.nr) (by rfl) ((HRn.out.more (Nat.le_of_lt hxs)).below HBa.out (Nat.le_refl _)) (ivs_one _) (by omega) (by omega) HBa.out.size ?_
    intro v6 w6 o6 b6 g6
    obtain ⟨A6, c6, rfl⟩ := own_form o6
    rw [← ivs_append] at o6
    have HOb := Lib.hid o6
    have HBb := Lib.hid (HBa.out.trans b6)
    clear o6 b6 g6
    refine hK.out _ _ HBb.out (fun _ => ?_)
    clear hK K
    try simp only [Act.put, sT]
    refine wpAnyH_ready (rs := [12]) (by kernel_rfl) (by simp) ?_
    refine AllReadyH.cons rfl (fun K hK => ?_) AllReadyH.nil
    rw [if_pos (by kernel_rfl)]
    try simp only [List.getElem_toArray, List.getElem_cons_zero, List.getElem_cons_succ]
    refine op_append_rdg w6 (by rfl) (.tmp 48) (.tmp 50) 30 (by rfl) w5.heap.size 3 i1 (.int .i64 0) 1 8 Tryz.underlying30 HJ.out rfl (by decide) _ (2 + nn) _ (by rfl) HOb.out w5.heap.size Af nf cf (ivs p.fr) (by rfl) ((HRf.out.more (Nat.le_of_lt hxs)).below HBb.out (Nat.le_refl _)) (ivs_one _) (by omega) (by omega) HBb.out.size ?_
    intro v7 w7 o7 b7 g7
    obtain ⟨A7, c7, rfl⟩ := own_form o7
    rw [← ivs_append] at o7
    have HOc := Lib.hid o7
    have HBc := Lib.hid (HBb.out.trans b7)
    clear o7 b7 g7
    refine hK.out _ _ HBc.out (fun _ => ?_)
    clear hK K
    try simp only [Act.put, sT]
    refine takP 13 5 ?_ rfl (by kernel_rfl) (fun _ _ _ => id) ?hy (by assumption) ?_
    case hy => intro w' h; clear h; go_simp; try with_reducible rfl
    simp only [Act.put, sT]
    refine wpAnyH_done (by kernel_rfl) ?_ _
    go_wp2_with fail
    go_meet
    exact ⟨A7, c7, rfl, HOc.out, HBc.out⟩
   case rest =>
    obtain ⟨AL, cL, rfl, hL, hB5⟩ := hcut
    have HLL := Lib.hid (own_weak hL HBsz.out); have HO5 := Lib.hid (own_below HO.out hB5); have HB5 := Lib.hid (HB.out.trans (hB5.mono HBsz.out))
    clear q9 q10 q11 q12 hL hB5 hd1
    obtain ⟨nL, hnL⟩ : ∃ z : Nat, 2 + nn + nf = z := ⟨_, rfl⟩
    have Hll : Hid (([p.s0, p.s1] ++ p.nr ++ p.fr).length = nL) := Lib.hid (by simp only [List.length_append]; rw [Hln.out, Hlf.out]; exact hnL)
    have Hpb : Hid (p.hd ++ encKs p.ks ++ encIs ([p.s0, p.s1] ++ p.nr ++ p.fr) = p.bytes) := Lib.hid (by unfold Pl.bytes Pl.hd encIs; simp only [List.flatMap_append, List.append_assoc])
    rw [hnL] at HLL
    rw [hnL]
    have hnLi : (nL : Int) ≤ 3000000 := by omega
    generalize [p.s0, p.s1] ++ p.nr ++ p.fr = LL at *
    clear hnL
    go_upto_region 10 with fail
    go_loopw [3, 6] (fun v i wr => ∃ (q m : Nat) (A' : Option Addr) (c' : Nat), q ≤ nL ∧ i = .int .i64 q ∧ v = .slice A' m c' ∧ Hid (m ≤ 11000026 + 11 * q) ∧ Hid (wr.ownsRow w0.heap.size 5 1 (.slice A' m c') m (bv (p.hd ++ encKs p.ks ++ encIs (LL.take q)))) ∧ Hid (wr.ownsRow w0.heap.size 3 1 (.slice AL nL cL) nL (ivs LL)) ∧ Hid (Below w0.heap.size w0 wr)) (fun _ i _ => nL - (RowKit.intOf i).toNat)
    case atStart => exact ⟨0, m, A', c', by omega, rfl, rfl, Lib.hid (by omega), by rw [encIs_zero]; exact HO5, HLL, HB5⟩
    case round =>
     obtain ⟨q, mq, Aq, cq, hq, rfl, rfl, Hm, HO, HL, HB⟩ := hrel
     by_cases hlt : q < nL
     ·have hd1 : decide ((q : Int) < (nL : Int)) = true := decide_eq_true (by omega)
      have hki : (q : Int) < (nL : Int) := by omega
      have Htk := Lib.hid (encIs_take (l := LL) (k := q) (by rw [Hll.out]; exact hlt))
      obtain ⟨b, o, rfl, hbB, x0⟩ := (Rd.of_own HL.out).iat hlt
      have hu := u64_wrap (LL.getD q 0)
      generalize LL.getD q 0 = h at *
      have hmb2 : mq ≤ 50000000 := by have := Hm.out; omega
      go_wp2_with fail
      try rw [hu]
      refine (numr_any (Go.Proofs.YthhiookcknnmdaaGreat.u64 h) wr (u64_lt h)).mono ?_
      rintro e w3 ⟨A3, n3, c3, rfl, ho, hn, hb⟩
      have HBp := Lib.hid (HB.out.trans (hb.mono HB.out.size)); have HOp := Lib.hid (own_below HO.out hb); have HNp := Lib.hid (Rd.of_own ho)
      have HLp := Lib.hid (own_below HL.out hb)
      have hl3 : n3 ≤ 11 := by rw [hn]; exact encN_len _
      have hsp := HBp.out.size
      clear ho hn hb
      go_wp2_with (at_builtin; go_must (refine wpList_append_rdg w3 (by rfl) _ _ 46 (by rfl) w0.heap.size 5 i0 (.int .u8 0) 1 1 Tryz.underlying46 HI.out rfl (by decide) _ _ _ (by rfl) HOp.out _ _ _ _ _ (by rfl) HNp.out (bv_one _) (by omega) (by omega) hsp ?_); intro v4 w4 o4 b4 g4; obtain ⟨A4, c4, rfl⟩ := own_form o4; rw [← bv_append] at o4; have HO4 := Lib.hid o4; have HB4 := Lib.hid (HBp.out.trans b4); have HL4 := Lib.hid (HLp.out.kept g4 (own_apart HLp.out HOp.out (by decide))); clear o4 b4 g4 HOp HNp HBp HLp hsp)
      go_roundw
      case rel => exact ⟨q + 1, mq + n3, A4, c4, hlt, by go_num, rfl, Lib.hid (by have := Hm.out; omega), Lib.hid (by rw [Htk.out, ← List.append_assoc]; exact HO4.out), HL4, HB4⟩
      case measure => simp [RowKit.intOf]; omega
     ·obtain rfl : q = nL := by omega
      have hd1 : decide ((q : Int) < (q : Int)) = false := decide_eq_false (by omega)
      rw [List.take_of_length_le (show LL.length ≤ q by rw [Hll.out]; omega), Hpb.out] at HO
      have hmb2 : mq ≤ 50000000 := by have := Hm.out; omega
      clear hlt
      go_wp2_with fail
      refine (ofr_any Aq mq cq p.bytes wr (Rd.of_own HO.out |>.more (Nat.le_refl _)) (by omega) (p.bytes_small HT.out HK.out (by rw [Hl.out]; exact hbk))).mono ?_
      rintro e w9 ⟨rfl, hb9⟩
      have HY9 := Lib.hid (block_below (block_below HY0.out HB.out (by rw [Hz0.out]; omega)) hb9 (by have := HB.out.size; have := Hz0.out; omega))
      have Hb9 := Lib.hid ((Hb0.out.trans (HB.out.mono Hb0.out.size)).trans (hb9.mono (Nat.le_trans Hb0.out.size HB.out.size)))
      have Hdg : Hid (hashOf p.bytes = p.digest) := Lib.hid rfl
      clear hb9
      have Hbx := HY9; have Hbw := Hb9
      obtain ⟨zf, r0, r1, r2, r3, r4, r5, r6, r7⟩ := free8 HY9.out
      generalize hashOf p.bytes = d at *
      go_wp2
      clear zf r0 r1 r2 r3 r4 r5 r6 r7
      have h8 := set8 Hbx.out (.int .u8 d.x0) (.int .u8 d.x1) (.int .u8 d.x2) (.int .u8 d.x3) (.int .u8 d.x4) (.int .u8 d.x5) (.int .u8 d.x6) (.int .u8 d.x7)
      have hg8 := grown_set8 w9 (w.heap.size + 1) (.int .u8 d.x0) (.int .u8 d.x1) (.int .u8 d.x2) (.int .u8 d.x3) (.int .u8 d.x4) (.int .u8 d.x5) (.int .u8 d.x6) (.int .u8 d.x7)
      generalize ((((((((w9.setCell ⟨w.heap.size + 1, 0, none⟩ (.int .u8 d.x0)).setCell ⟨w.heap.size + 1, 1, none⟩ (.int .u8 d.x1)).setCell ⟨w.heap.size + 1, 2, none⟩ (.int .u8 d.x2)).setCell ⟨w.heap.size + 1, 3, none⟩ (.int .u8 d.x3)).setCell ⟨w.heap.size + 1, 4, none⟩ (.int .u8 d.x4)).setCell ⟨w.heap.size + 1, 5, none⟩ (.int .u8 d.x5)).setCell ⟨w.heap.size + 1, 6, none⟩ (.int .u8 d.x6)).setCell ⟨w.heap.size + 1, 7, none⟩ (.int .u8 d.x7)) = w10 at *
      obtain ⟨zf, r0, r1, r2, r3, r4, r5, r6, r7⟩ := free8 h8
      have Hb2 := Lib.hid (Hbw.out.grown hg8 Hbw.out.size (fun k hk => by injection hk with hk; omega))
      clear h8 hg8
      exact bodyPost_ret (v := .agg #[.int .u8 d.x0, .int .u8 d.x1, .int .u8 d.x2, .int .u8 d.x3, .int .u8 d.x4, .int .u8 d.x5, .int .u8 d.x6, .int .u8 d.x7]) (by simp [results, Tryz.results33, go_sem, r0, r1, r2, r3, r4, r5, r6, r7]) rfl ⟨by rw [Hdg.out], Hb2.out⟩
end Go.Proofs.YthhiookcknnmdaaGreat
