/- The walk of VirtualPlans. Nothing is asked of the world but what the opening tells. -/
import Derived.Test.YthhiookcknnmdaaGreatJoinUbc
import Derived.Test.YthhiookcknnmdaaGreatJoinUaj
namespace Go.Proofs.YthhiookcknnmdaaGreat
open Go.RowKit Go.Lib
section
set_option maxRecDepth 100000 in
set_option maxHeartbeats 16000000 in
theorem vplans_any (p : Pl) (Ak : Option Addr) (nk ck : Nat) (An : Option Addr) (nn cn : Nat) (Af : Option Addr) (nf cf : Nat) (last wn hop wh : Int) (w : World)
  (hk : Rd w w.heap.size 8 Ak nk (flatD p.ks)) (hn : Rd w w.heap.size 1 An nn (ivs p.nr)) (hf : Rd w w.heap.size 1 Af nf (ivs p.fr)) (hc : nk ≤ ck) (ht : p.tb.ok) (hok : ∀ d ∈ p.ks, d.ok) :
  Calls Tryz.prog 5 #[.agg #[.int .u8 p.tb.x0, .int .u8 p.tb.x1, .int .u8 p.tb.x2, .int .u8 p.tb.x3, .int .u8 p.tb.x4, .int .u8 p.tb.x5, .int .u8 p.tb.x6, .int .u8 p.tb.x7, .slice Ak nk ck, .int .i64 p.s0, .int .i64 p.s1, .slice An nn cn, .slice Af nf cf], .int .i64 last, .int .i64 wn, .int .i64 hop, .int .i64 wh] w fun e w' => e = .returned (.bool true) ∧ Below w.heap.size w w' := by
 have HX0 : Hid ((w.alloc (.cells #[.int .u8 p.tb.x0, .int .u8 p.tb.x1, .int .u8 p.tb.x2, .int .u8 p.tb.x3, .int .u8 p.tb.x4, .int .u8 p.tb.x5, .int .u8 p.tb.x6, .int .u8 p.tb.x7, .slice Ak nk ck, .int .i64 p.s0, .int .i64 p.s1, .slice An nn cn, .slice Af nf cf] 65)).heap[w.heap.size]? = some (.cells #[.int .u8 p.tb.x0, .int .u8 p.tb.x1, .int .u8 p.tb.x2, .int .u8 p.tb.x3, .int .u8 p.tb.x4, .int .u8 p.tb.x5, .int .u8 p.tb.x6, .int .u8 p.tb.x7, .slice Ak nk ck, .int .i64 p.s0, .int .i64 p.s1, .slice An nn cn, .slice Af nf cf] 65 (0, 0))) := heap_alloc_new _ _
 have Hb0 := Lib.hid (below_one w (.cells #[.int .u8 p.tb.x0, .int .u8 p.tb.x1, .int .u8 p.tb.x2, .int .u8 p.tb.x3, .int .u8 p.tb.x4, .int .u8 p.tb.x5, .int .u8 p.tb.x6, .int .u8 p.tb.x7, .slice Ak nk ck, .int .i64 p.s0, .int .i64 p.s1, .slice An nn cn, .slice Af nf cf] 65))
 have HRk := Lib.hid hk; have HRn := Lib.hid hn; have HRf := Lib.hid hf; have HT := Lib.hid ht; have HOk := Lib.hid hok
 clear hk hn hf ht hok
 go_enter Tryz.func5, Tryz.ntmps5
 go_upto_region 1 with fail
 generalize w.alloc (.cells #[.int .u8 p.tb.x0, .int .u8 p.tb.x1, .int .u8 p.tb.x2, .int .u8 p.tb.x3, .int .u8 p.tb.x4, .int .u8 p.tb.x5, .int .u8 p.tb.x6, .int .u8 p.tb.x7, .slice Ak nk ck, .int .i64 p.s0, .int .i64 p.s1, .slice An nn cn, .slice Af nf cf] 65) = w0 at *
 have HK : Hid (∀ v, Calls Tryz.prog 14 #[] v fun e w' => e = .returned (.bool true) ∧ Below v.heap.size v w') := Lib.hid fun v => (known_any v).mono fun e w' h => h
 have hlx := block_lt HX0.out
 go_wp2_with fail
 refine (HK.out w0).mono ?_
 rintro e w1 ⟨rfl, hb1⟩
 have Hb1 := Lib.hid (Hb0.out.trans (hb1.mono Hb0.out.size))
 have HX1 := Lib.hid (block_below HX0.out hb1 hlx)
 clear hb1 hlx
 obtain ⟨-, z0, z1, z2, z3, z4, z5, z6, z7, z8, z9, z10, z11, z12⟩ := free13 HX1.out
 by_cases h1 : 20 < nk
 ·have q1 : decide ((20 : Int) < (nk : Int)) = true := decide_eq_true (by omega)
  clear h1
  go_upto_region 2 with fail
  go_wp2_with (go_at_call 14; refine (HK.out _).mono ?_; rintro e w3 ⟨rfl, hb3⟩; have Hb3 := Lib.hid (Hb1.out.trans (hb3.mono Hb1.out.size)); clear hb3)
  go_ret
  exact ⟨rfl, Hb3.out⟩
 have q1 : decide ((20 : Int) < (nk : Int)) = false := decide_eq_false (by omega)
 by_cases h2 : 20 < nn
 ·have q2 : decide ((20 : Int) < (nn : Int)) = true := decide_eq_true (by omega)
  clear h1 h2
  go_upto_region 2 with fail
  go_wp2_with (go_at_call 14; refine (HK.out _).mono ?_; rintro e w3 ⟨rfl, hb3⟩; have Hb3 := Lib.hid (Hb1.out.trans (hb3.mono Hb1.out.size)); clear hb3)
  go_ret
  exact ⟨rfl, Hb3.out⟩
 have q2 : decide ((20 : Int) < (nn : Int)) = false := decide_eq_false (by omega)
 by_cases h3 : 20 < nf
 ·have q3 : decide ((20 : Int) < (nf : Int)) = true := decide_eq_true (by omega)
  clear h1 h2 h3
  go_upto_region 2 with fail
  go_wp2_with (go_at_call 14; refine (HK.out _).mono ?_; rintro e w3 ⟨rfl, hb3⟩; have Hb3 := Lib.hid (Hb1.out.trans (hb3.mono Hb1.out.size)); clear hb3)
  go_ret
  exact ⟨rfl, Hb3.out⟩
 have q3 : decide ((20 : Int) < (nf : Int)) = false := decide_eq_false (by omega)
 have HA0 : Hid (p.At Ak nk ck An nn Af nf w) := ⟨HRk.out, HRn.out, HRf.out, by omega, by omega, by omega, hc⟩
 have HA1 := Lib.hid (HA0.out.up Hb1.out)
 have hlx := block_lt HX1.out
 go_upto_region 3 with fail
 go_wp2_with fail
 refine (of_any p Ak nk ck An nn cn Af nf cf w1 HA1.out).mono ?_
 rintro e w2 ⟨Ax, cx, rfl, ho, hb⟩
 have Hb2 := Lib.hid (Hb1.out.trans (hb.mono Hb1.out.size))
 have HX2 := Lib.hid (block_below HX1.out hb hlx)
 have HO2 := Lib.hid ho
 clear hb ho z0 z1 z2 z3 z4 z5 z6 z7 z8 z9 z10 z11 z12 hlx q1 q2 q3
 go_upto_region 4 with fail
 have HP3 : Hid ((w2.alloc (.cells #[.int .u8 p.tb.x0, .int .u8 p.tb.x1, .int .u8 p.tb.x2, .int .u8 p.tb.x3, .int .u8 p.tb.x4, .int .u8 p.tb.x5, .int .u8 p.tb.x6, .int .u8 p.tb.x7, .slice Ax nk cx, .int .i64 p.s0, .int .i64 p.s1, .slice An nn cn, .slice Af nf cf] 32)).heap[w2.heap.size]? = some (.cells #[.int .u8 p.tb.x0, .int .u8 p.tb.x1, .int .u8 p.tb.x2, .int .u8 p.tb.x3, .int .u8 p.tb.x4, .int .u8 p.tb.x5, .int .u8 p.tb.x6, .int .u8 p.tb.x7, .slice Ax nk cx, .int .i64 p.s0, .int .i64 p.s1, .slice An nn cn, .slice Af nf cf] 32 (0, 0))) := heap_alloc_new _ _
 have hz3 := Hb2.out.size
 have Hb3 := Lib.hid (Hb2.out.alloc Hb2.out.size (.cells #[.int .u8 p.tb.x0, .int .u8 p.tb.x1, .int .u8 p.tb.x2, .int .u8 p.tb.x3, .int .u8 p.tb.x4, .int .u8 p.tb.x5, .int .u8 p.tb.x6, .int .u8 p.tb.x7, .slice Ax nk cx, .int .i64 p.s0, .int .i64 p.s1, .slice An nn cn, .slice Af nf cf] 32))
 have HX3 := Lib.hid (block_alloc HX2.out (.cells #[.int .u8 p.tb.x0, .int .u8 p.tb.x1, .int .u8 p.tb.x2, .int .u8 p.tb.x3, .int .u8 p.tb.x4, .int .u8 p.tb.x5, .int .u8 p.tb.x6, .int .u8 p.tb.x7, .slice Ax nk cx, .int .i64 p.s0, .int .i64 p.s1, .slice An nn cn, .slice Af nf cf] 32))
 have HO3 := Lib.hid (HO2.out.alloc (.cells #[.int .u8 p.tb.x0, .int .u8 p.tb.x1, .int .u8 p.tb.x2, .int .u8 p.tb.x3, .int .u8 p.tb.x4, .int .u8 p.tb.x5, .int .u8 p.tb.x6, .int .u8 p.tb.x7, .slice Ax nk cx, .int .i64 p.s0, .int .i64 p.s1, .slice An nn cn, .slice Af nf cf] 32))
 generalize w2.alloc (.cells #[.int .u8 p.tb.x0, .int .u8 p.tb.x1, .int .u8 p.tb.x2, .int .u8 p.tb.x3, .int .u8 p.tb.x4, .int .u8 p.tb.x5, .int .u8 p.tb.x6, .int .u8 p.tb.x7, .slice Ax nk cx, .int .i64 p.s0, .int .i64 p.s1, .slice An nn cn, .slice Af nf cf] 32) = w3 at *
 obtain ⟨xb, hxb⟩ : ∃ z : Nat, w2.heap.size = z := ⟨_, rfl⟩
 rw [hxb] at HP3
 rw [hxb]
 have hlp := block_lt HP3.out
 have hlx := block_lt HX3.out
 have HA3 : Hid (p.At Ax nk cx An nn Af nf w3) := ⟨Rd.of_own HO3.out, (HA0.out.up Hb3.out).n, (HA0.out.up Hb3.out).f, by omega, by omega, by omega, own_cap HO3.out⟩
 have HB3 := Lib.hid (HA0.out.up Hb3.out)
 clear hxb hz3 HO3 HO2 HX2 Hb2 HX1 HA1
 obtain ⟨-, z0, z1, z2, z3, z4, z5, z6, z7, z8, z9, z10, z11, z12⟩ := free13 HP3.out
 have hnp := newplan_any p.tb p.ks p.s0 p.s1 last wn Ax nk cx w3 HA3.out.k (by omega)
 have hnr : ∀ u : World, Below w3.heap.size w3 u → Calls Tryz.prog 28 #[.agg #[.int .u8 p.tb.x0, .int .u8 p.tb.x1, .int .u8 p.tb.x2, .int .u8 p.tb.x3, .int .u8 p.tb.x4, .int .u8 p.tb.x5, .int .u8 p.tb.x6, .int .u8 p.tb.x7], .slice Ak nk ck, .agg #[.int .i64 p.s0, .int .i64 p.s1], .int .i64 last, .int .i64 wn] u (GivesPr (Pl.new p.tb p.ks p.s0 p.s1 last wn).2 (Pl.new p.tb p.ks p.s0 p.s1 last wn).1 u) := fun u hu => newr_any p.tb p.ks p.s0 p.s1 last wn Ak nk ck u (HB3.out.up hu).k (by omega)
 generalize Pl.new p.tb p.ks p.s0 p.s1 last wn = nw at *
 obtain ⟨er, q⟩ := nw
 have HNp := Lib.hid hnp; have HNr := Lib.hid hnr
 clear hnp hnr
 go_wp2_with fail
 refine HNp.out.mono ?_
 rintro e w4 ⟨Bk, bk, ck2, Bn, bn, cn2, Bf, bf, cf2, rfl, ho, hb⟩
 have Hb4 := Lib.hid (Hb3.out.trans (hb.mono Hb3.out.size))
 have HL4 := Lib.hid hb
 have HX4 := Lib.hid (block_below HX3.out hb hlx)
 have HP4 := Lib.hid (block_below HP3.out hb hlp)
 have HQ4 := Lib.hid ho.at_
 clear hb ho z0 z1 z2 z3 z4 z5 z6 z7 z8 z9 z10 z11 z12 HNp
 go_upto_region 5 with fail
 have HN5 : Hid ((w4.alloc (.cells #[.int .u8 q.tb.x0, .int .u8 q.tb.x1, .int .u8 q.tb.x2, .int .u8 q.tb.x3, .int .u8 q.tb.x4, .int .u8 q.tb.x5, .int .u8 q.tb.x6, .int .u8 q.tb.x7, .slice Bk bk ck2, .int .i64 q.s0, .int .i64 q.s1, .slice Bn bn cn2, .slice Bf bf cf2] 32)).heap[w4.heap.size]? = some (.cells #[.int .u8 q.tb.x0, .int .u8 q.tb.x1, .int .u8 q.tb.x2, .int .u8 q.tb.x3, .int .u8 q.tb.x4, .int .u8 q.tb.x5, .int .u8 q.tb.x6, .int .u8 q.tb.x7, .slice Bk bk ck2, .int .i64 q.s0, .int .i64 q.s1, .slice Bn bn cn2, .slice Bf bf cf2] 32 (0, 0))) := heap_alloc_new _ _
 have Hb5 := Lib.hid (Hb4.out.alloc Hb4.out.size (.cells #[.int .u8 q.tb.x0, .int .u8 q.tb.x1, .int .u8 q.tb.x2, .int .u8 q.tb.x3, .int .u8 q.tb.x4, .int .u8 q.tb.x5, .int .u8 q.tb.x6, .int .u8 q.tb.x7, .slice Bk bk ck2, .int .i64 q.s0, .int .i64 q.s1, .slice Bn bn cn2, .slice Bf bf cf2] 32))
 have HL5 := Lib.hid (HL4.out.alloc HL4.out.size (.cells #[.int .u8 q.tb.x0, .int .u8 q.tb.x1, .int .u8 q.tb.x2, .int .u8 q.tb.x3, .int .u8 q.tb.x4, .int .u8 q.tb.x5, .int .u8 q.tb.x6, .int .u8 q.tb.x7, .slice Bk bk ck2, .int .i64 q.s0, .int .i64 q.s1, .slice Bn bn cn2, .slice Bf bf cf2] 32))
 have HX5 := Lib.hid (block_alloc HX4.out (.cells #[.int .u8 q.tb.x0, .int .u8 q.tb.x1, .int .u8 q.tb.x2, .int .u8 q.tb.x3, .int .u8 q.tb.x4, .int .u8 q.tb.x5, .int .u8 q.tb.x6, .int .u8 q.tb.x7, .slice Bk bk ck2, .int .i64 q.s0, .int .i64 q.s1, .slice Bn bn cn2, .slice Bf bf cf2] 32))
 have HP5 := Lib.hid (block_alloc HP4.out (.cells #[.int .u8 q.tb.x0, .int .u8 q.tb.x1, .int .u8 q.tb.x2, .int .u8 q.tb.x3, .int .u8 q.tb.x4, .int .u8 q.tb.x5, .int .u8 q.tb.x6, .int .u8 q.tb.x7, .slice Bk bk ck2, .int .i64 q.s0, .int .i64 q.s1, .slice Bn bn cn2, .slice Bf bf cf2] 32))
 have HQ5 := Lib.hid (HQ4.out.up ((Below.refl w4.heap.size w4).alloc (Nat.le_refl _) (.cells #[.int .u8 q.tb.x0, .int .u8 q.tb.x1, .int .u8 q.tb.x2, .int .u8 q.tb.x3, .int .u8 q.tb.x4, .int .u8 q.tb.x5, .int .u8 q.tb.x6, .int .u8 q.tb.x7, .slice Bk bk ck2, .int .i64 q.s0, .int .i64 q.s1, .slice Bn bn cn2, .slice Bf bf cf2] 32)))
 generalize w4.alloc (.cells #[.int .u8 q.tb.x0, .int .u8 q.tb.x1, .int .u8 q.tb.x2, .int .u8 q.tb.x3, .int .u8 q.tb.x4, .int .u8 q.tb.x5, .int .u8 q.tb.x6, .int .u8 q.tb.x7, .slice Bk bk ck2, .int .i64 q.s0, .int .i64 q.s1, .slice Bn bn cn2, .slice Bf bf cf2] 32) = w5 at *
 obtain ⟨nb, hnb⟩ : ∃ z : Nat, w4.heap.size = z := ⟨_, rfl⟩
 rw [hnb] at HN5
 rw [hnb]
 clear hnb HX4 HP4 HQ4 HL4 Hb4 hlp hlx
 have hlp := block_lt HP5.out
 have hlx := block_lt HX5.out
 have hln := block_lt HN5.out
 obtain ⟨-, z0, z1, z2, z3, z4, z5, z6, z7, z8, z9, z10, z11, z12⟩ := free13 HX5.out
 go_wp2_with fail
 refine (HNr.out w5 HL5.out).mono ?_
 rintro e w6 ⟨Ck, ck5, ck3, Cn, cn5, cn3, Cf, cf5, cf3, rfl, ho, hb⟩
 have Hb6 := Lib.hid (Hb5.out.trans (hb.mono Hb5.out.size))
 have HL6 := Lib.hid (HL5.out.trans (hb.mono HL5.out.size))
 have HX6 := Lib.hid (block_below HX5.out hb hlx)
 have HP6 := Lib.hid (block_below HP5.out hb hlp)
 have HN6 := Lib.hid (block_below HN5.out hb hln)
 have HQ6 := Lib.hid (HQ5.out.up hb)
 have HC6 := Lib.hid ho
 clear hb ho z0 z1 z2 z3 z4 z5 z6 z7 z8 z9 z10 z11 z12 HNr HX5 HP5 HN5 HQ5 HL5 Hb5
 go_upto_region 6 with fail
 have HM7 : Hid ((w6.alloc (.cells #[.int .u8 q.tb.x0, .int .u8 q.tb.x1, .int .u8 q.tb.x2, .int .u8 q.tb.x3, .int .u8 q.tb.x4, .int .u8 q.tb.x5, .int .u8 q.tb.x6, .int .u8 q.tb.x7, .slice Ck ck5 ck3, .int .i64 q.s0, .int .i64 q.s1, .slice Cn cn5 cn3, .slice Cf cf5 cf3] 65)).heap[w6.heap.size]? = some (.cells #[.int .u8 q.tb.x0, .int .u8 q.tb.x1, .int .u8 q.tb.x2, .int .u8 q.tb.x3, .int .u8 q.tb.x4, .int .u8 q.tb.x5, .int .u8 q.tb.x6, .int .u8 q.tb.x7, .slice Ck ck5 ck3, .int .i64 q.s0, .int .i64 q.s1, .slice Cn cn5 cn3, .slice Cf cf5 cf3] 65 (0, 0))) := heap_alloc_new _ _
 have hal := (Below.refl w6.heap.size w6).alloc (Nat.le_refl _) (.cells #[.int .u8 q.tb.x0, .int .u8 q.tb.x1, .int .u8 q.tb.x2, .int .u8 q.tb.x3, .int .u8 q.tb.x4, .int .u8 q.tb.x5, .int .u8 q.tb.x6, .int .u8 q.tb.x7, .slice Ck ck5 ck3, .int .i64 q.s0, .int .i64 q.s1, .slice Cn cn5 cn3, .slice Cf cf5 cf3] 65)
 have Hb7 := Lib.hid (Hb6.out.alloc Hb6.out.size (.cells #[.int .u8 q.tb.x0, .int .u8 q.tb.x1, .int .u8 q.tb.x2, .int .u8 q.tb.x3, .int .u8 q.tb.x4, .int .u8 q.tb.x5, .int .u8 q.tb.x6, .int .u8 q.tb.x7, .slice Ck ck5 ck3, .int .i64 q.s0, .int .i64 q.s1, .slice Cn cn5 cn3, .slice Cf cf5 cf3] 65))
 have HL7 := Lib.hid (HL6.out.alloc HL6.out.size (.cells #[.int .u8 q.tb.x0, .int .u8 q.tb.x1, .int .u8 q.tb.x2, .int .u8 q.tb.x3, .int .u8 q.tb.x4, .int .u8 q.tb.x5, .int .u8 q.tb.x6, .int .u8 q.tb.x7, .slice Ck ck5 ck3, .int .i64 q.s0, .int .i64 q.s1, .slice Cn cn5 cn3, .slice Cf cf5 cf3] 65))
 have HX7 := Lib.hid (block_alloc HX6.out (.cells #[.int .u8 q.tb.x0, .int .u8 q.tb.x1, .int .u8 q.tb.x2, .int .u8 q.tb.x3, .int .u8 q.tb.x4, .int .u8 q.tb.x5, .int .u8 q.tb.x6, .int .u8 q.tb.x7, .slice Ck ck5 ck3, .int .i64 q.s0, .int .i64 q.s1, .slice Cn cn5 cn3, .slice Cf cf5 cf3] 65))
 have HP7 := Lib.hid (block_alloc HP6.out (.cells #[.int .u8 q.tb.x0, .int .u8 q.tb.x1, .int .u8 q.tb.x2, .int .u8 q.tb.x3, .int .u8 q.tb.x4, .int .u8 q.tb.x5, .int .u8 q.tb.x6, .int .u8 q.tb.x7, .slice Ck ck5 ck3, .int .i64 q.s0, .int .i64 q.s1, .slice Cn cn5 cn3, .slice Cf cf5 cf3] 65))
 have HN7 := Lib.hid (block_alloc HN6.out (.cells #[.int .u8 q.tb.x0, .int .u8 q.tb.x1, .int .u8 q.tb.x2, .int .u8 q.tb.x3, .int .u8 q.tb.x4, .int .u8 q.tb.x5, .int .u8 q.tb.x6, .int .u8 q.tb.x7, .slice Ck ck5 ck3, .int .i64 q.s0, .int .i64 q.s1, .slice Cn cn5 cn3, .slice Cf cf5 cf3] 65))
 have HQ7 := Lib.hid (HQ6.out.up hal); have HC7 := Lib.hid (HC6.out.up hal)
 generalize w6.alloc (.cells #[.int .u8 q.tb.x0, .int .u8 q.tb.x1, .int .u8 q.tb.x2, .int .u8 q.tb.x3, .int .u8 q.tb.x4, .int .u8 q.tb.x5, .int .u8 q.tb.x6, .int .u8 q.tb.x7, .slice Ck ck5 ck3, .int .i64 q.s0, .int .i64 q.s1, .slice Cn cn5 cn3, .slice Cf cf5 cf3] 65) = w7 at *
 obtain ⟨mb, hmb⟩ : ∃ z : Nat, w6.heap.size = z := ⟨_, rfl⟩
 rw [hmb] at HM7
 rw [hmb]
 have e1 : ck5 = bk := HC7.out.k.dlenD.symm.trans HQ7.out.k.dlenD
 have e2 : cn5 = bn := HC7.out.n.ilen.symm.trans HQ7.out.n.ilen
 have e3 : cf5 = bf := HC7.out.f.ilen.symm.trans HQ7.out.f.ilen
 subst e1 e2 e3
 clear hmb hal HX6 HP6 HN6 HQ6 HC6 HL6 Hb6 hlp hlx hln
 have hlp := block_lt HP7.out
 have hlx := block_lt HX7.out
 have hln := block_lt HN7.out
 have hlm := block_lt HM7.out
 have HA7 := Lib.hid (HA3.out.up HL7.out); have HB7 := Lib.hid (HB3.out.up HL7.out)
 clear HA3 HB3
 go_cut [92] (fun s wx => s = .bool false ∧ Below w7.heap.size w7 wx)
 case first =>
  apply vp6 HX7 HP7 HN7 HM7 HQ7 HC7 HA7 HB7 HT HOk
  ·exact (Lib.hid fun _ _ d _ _ h => by cases d <;> exact h)
  ·refine Lib.hid ?_
   intros
   rename_i h1
   dsimp only
   go_wp2_with fail
   go_meet
   exact ⟨rfl, h1⟩
  ·kernel_rfl
 case rest =>
  obtain ⟨rfl, hb8⟩ := hcut
  have Hb8 := Lib.hid (Hb7.out.trans (hb8.mono Hb7.out.size))
  have HX8 := Lib.hid (block_below HX7.out hb8 hlx)
  have HP8 := Lib.hid (block_below HP7.out hb8 hlp)
  have HA8 := Lib.hid (HA7.out.up hb8)
  clear hb8 hlx hlp hln hlm HX7 HP7 HN7 HM7 HQ7 HC7 HA7 HB7 HL7 Hb7
  have hlx8 := block_lt HX8.out
  have hlp8 := block_lt HP8.out
  obtain ⟨nI, hnI⟩ : ∃ z : Int, (nk : Int) - 1 = z := ⟨_, rfl⟩
  have hi1 : -1 ≤ nI := by omega
  have hi2 : nI ≤ 19 := by omega
  have HnI := Lib.hid hnI
  by_cases his : ¬ (0 ≤ hop ∧ hop < nI ∧ hop < (nn : Int) ∧ hop < (nf : Int) ∧ (wh = 0 ∨ wh = 1))
  ·have HNo := Lib.hid his
   clear his
   go_upto_region 8 with fail
   obtain ⟨-, z0, z1, z2, z3, z4, z5, z6, z7, z8, z9, z10, z11, z12⟩ := free13 HP8.out
   go_wp2_with fail
   refine (pllock_none p Ax nk cx An nn cn Af nf cf hop wh wc (by omega) (by rw [HnI.out]; exact HNo.out)).mono ?_
   rintro e w9 ⟨rfl, hb⟩
   have Hb9 := Lib.hid (Hb8.out.trans (hb.mono Hb8.out.size))
   have HX9 := Lib.hid (block_below HX8.out hb hlx8)
   clear hb z0 z1 z2 z3 z4 z5 z6 z7 z8 z9 z10 z11 z12
   go_upto_region 9 with fail
   have HL10 : Hid ((w9.alloc (.cells #[.int .i64 0, .int .u8 0, .int .u8 0, .int .u8 0, .int .u8 0, .int .u8 0, .int .u8 0, .int .u8 0, .int .u8 0, .slice none 0 0, .int .i64 0, .int .i64 0, .int .i64 0] 40)).heap[w9.heap.size]? = some (.cells #[.int .i64 0, .int .u8 0, .int .u8 0, .int .u8 0, .int .u8 0, .int .u8 0, .int .u8 0, .int .u8 0, .int .u8 0, .slice none 0 0, .int .i64 0, .int .i64 0, .int .i64 0] 40 (0, 0))) := heap_alloc_new _ _
   have HX10 := Lib.hid (block_alloc HX9.out (.cells #[.int .i64 0, .int .u8 0, .int .u8 0, .int .u8 0, .int .u8 0, .int .u8 0, .int .u8 0, .int .u8 0, .int .u8 0, .slice none 0 0, .int .i64 0, .int .i64 0, .int .i64 0] 40))
   have Hb10 := Lib.hid (Hb9.out.alloc Hb9.out.size (.cells #[.int .i64 0, .int .u8 0, .int .u8 0, .int .u8 0, .int .u8 0, .int .u8 0, .int .u8 0, .int .u8 0, .int .u8 0, .slice none 0 0, .int .i64 0, .int .i64 0, .int .i64 0] 40))
   generalize w9.alloc (.cells #[.int .i64 0, .int .u8 0, .int .u8 0, .int .u8 0, .int .u8 0, .int .u8 0, .int .u8 0, .int .u8 0, .int .u8 0, .slice none 0 0, .int .i64 0, .int .i64 0, .int .i64 0] 40) = w10 at *
   obtain ⟨tb, htb⟩ : ∃ z : Nat, w9.heap.size = z := ⟨_, rfl⟩
   rw [htb] at HL10
   rw [htb]
   clear htb HX9 Hb9
   obtain ⟨-, z0, z1, z2, z3, z4, z5, z6, z7, z8, z9, z10, z11, z12⟩ := free13 HX10.out
   go_cut [18] (fun s wx => s = .bool false ∧ wx = w10)
   case first =>
    by_cases c1 : 0 ≤ hop
    ·have q1 : decide (0 ≤ hop) = true := decide_eq_true c1
     by_cases c2 : hop < nI
     ·have q2 : decide (hop < nI) = true := decide_eq_true c2
      by_cases c3 : hop < (nn : Int)
      ·have q3 : decide (hop < (nn : Int)) = true := decide_eq_true c3
       by_cases c4 : hop < (nf : Int)
       ·have q4 : decide (hop < (nf : Int)) = true := decide_eq_true c4
        have q5 : (wh == 0) = false := by rw [beq_eq_false_iff_ne]; exact fun h => HNo.out ⟨c1, c2, c3, c4, .inl h⟩
        have q6 : (wh == 1) = false := by rw [beq_eq_false_iff_ne]; exact fun h => HNo.out ⟨c1, c2, c3, c4, .inr h⟩
        clear c1 c2 c3 c4
        go_wp2_with fail
        go_meet
        exact ⟨rfl, rfl⟩
       ·have q4 : decide (hop < (nf : Int)) = false := decide_eq_false c4
        clear c1 c2 c3 c4
        go_wp2_with fail
        go_meet
        exact ⟨rfl, rfl⟩
      ·have q3 : decide (hop < (nn : Int)) = false := decide_eq_false c3
       clear c1 c2 c3
       go_wp2_with fail
       go_meet
       exact ⟨rfl, rfl⟩
     ·have q2 : decide (hop < nI) = false := decide_eq_false c2
      clear c1 c2
      go_wp2_with fail
      go_meet
      exact ⟨rfl, rfl⟩
    ·have q1 : decide (0 ≤ hop) = false := decide_eq_false c1
     clear c1
     go_wp2_with fail
     go_meet
     exact ⟨rfl, rfl⟩
   obtain ⟨rfl, rfl⟩ := hcut
   obtain ⟨-, y0, y1, y2, y3, y4, y5, y6, y7, y8, y9, y10, y11, y12⟩ := free13 HL10.out
   go_upto_region 11 with fail
   go_wp2_with fail
   refine (lkzero_any wc).mono ?_
   rintro e w11 ⟨rfl, hb⟩
   have Hb11 := Lib.hid (Hb10.out.trans (hb.mono Hb10.out.size))
   clear hb
   go_wp2
   go_ret
   exact ⟨rfl, Hb11.out⟩
  obtain ⟨c1, c2, c3, c4, c5⟩ := Decidable.not_not.1 his
  have q1 : decide (0 ≤ hop) = true := decide_eq_true c1
  have q2 : decide (hop < nI) = true := decide_eq_true c2
  have q3 : decide (hop < (nn : Int)) = true := decide_eq_true c3
  have q4 : decide (hop < (nf : Int)) = true := decide_eq_true c4
  obtain ⟨hopN, rfl⟩ : ∃ n : Nat, hop = n := ⟨hop.toNat, by omega⟩
  obtain ⟨kw, rfl⟩ : ∃ n : Nat, wh = n := ⟨wh.toNat, by omega⟩
  have hkw : kw < 2 := by omega
  obtain ⟨m, hm⟩ : ∃ m : Nat, nI = m := ⟨nI.toNat, by omega⟩
  subst hm
  have h1n : hopN + 1 < nk := by omega
  have h2n : hopN < nn := by omega
  have h3n : hopN < nf := by omega
  have HlK : Hid (p.ks.length - 1 = m) := Lib.hid (by have := HA8.out.k.dlenD; omega)
  have hh1 : (hopN : Int) < (nn : Int) := by omega
  have hh2 : (hopN : Int) < (nf : Int) := by omega
  have hh3 : (m : Int) < (nk : Int) := by omega
  have hh4 : (0 : Int) < (nk : Int) := by omega
  have hh5 : 0 < nk := by omega
  have hh6 : m < nk := by omega
  have hwm : IntKind.i64.wrap (m : Int) = (m : Int) := wrapI_id (by omega) (by omega)
  have hor : (kw : Int) = 0 ∨ (kw : Int) = 1 := by omega
  have hki : (kw : Int) < 2 := by omega
  have hHLk : Calls Tryz.prog 16 #[.agg #[.int .u8 p.tb.x0, .int .u8 p.tb.x1, .int .u8 p.tb.x2, .int .u8 p.tb.x3, .int .u8 p.tb.x4, .int .u8 p.tb.x5, .int .u8 p.tb.x6, .int .u8 p.tb.x7, .slice Ax nk cx, .int .i64 p.s0, .int .i64 p.s1, .slice An nn cn, .slice Af nf cf], .int .i64 hopN, .int .i64 kw] wc (GivesLk ⟨1, p.tb, [p.ks.getD 0 dz8, p.ks.getD m dz8], (kw : Int), p.st (kw : Int), p.un hopN (kw : Int)⟩ 0 wc) := by
   have hun : p.lock hopN (kw : Int) = ⟨1, p.tb, [p.ks.getD 0 dz8, p.ks.getD m dz8], (kw : Int), p.st (kw : Int), p.un hopN (kw : Int)⟩ := by unfold Pl.lock; rw [HlK.out]
   rw [← hun]
   exact pllock_ok p Ax nk cx An nn cn Af nf cf hopN (kw : Int) wc HA8.out h1n h2n h3n hor
  have hun0 : kw = 0 → p.un hopN (kw : Int) = p.nr.getD hopN 0 := fun h => by subst h; rfl
  have hun1 : kw = 1 → p.un hopN (kw : Int) = p.fr.getD hopN 0 := fun h => by subst h; rfl
  have hst : ∀ (w' : World), w'.heap[w.heap.size]? = some (.cells #[.int .u8 p.tb.x0, .int .u8 p.tb.x1, .int .u8 p.tb.x2, .int .u8 p.tb.x3, .int .u8 p.tb.x4, .int .u8 p.tb.x5, .int .u8 p.tb.x6, .int .u8 p.tb.x7, .slice Ak nk ck, .int .i64 p.s0, .int .i64 p.s1, .slice An nn cn, .slice Af nf cf] 65 (0, 0)) → w'.cell? ⟨w.heap.size, 9 + kw, none⟩ = some (.int .i64 (p.st (kw : Int))) := fun w' hw' => by
   have h9 := block_cell hw' 9; have h10 := block_cell hw' 10
   rcases (show kw = 0 ∨ kw = 1 by omega) with rfl | rfl
   ·simpa [Pl.st] using h9
   ·simpa [Pl.st] using h10
  generalize p.un hopN (kw : Int) = un at *
  generalize p.st (kw : Int) = st at *
  have HLk := Lib.hid hHLk; have HU0 := Lib.hid hun0; have HU1 := Lib.hid hun1; have HSt := Lib.hid hst
  clear hHLk hun0 hun1 hst hor
  obtain ⟨b, o, hAx, hbB, hr0⟩ := HA8.out.k.drange (k := 0) (by omega)
  obtain ⟨b', o', hAx', _, hr1⟩ := HA8.out.k.drange (k := m) (by omega)
  obtain ⟨bn, on, hAn, hbn, hcn⟩ := HA8.out.n.iat h2n
  obtain ⟨bf, of', hAf, hbf, hcf⟩ := HA8.out.f.iat h3n
  subst hAx hAn hAf
  injection hAx' with hAx'; injection hAx' with e1 e2; subst e1 e2
  have Hr0 := Lib.hid hr0; have Hr1 := Lib.hid hr1
  have HCn : Hid (∀ w', Below wc.heap.size wc w' → w'.cell? ⟨bn, on + hopN, none⟩ = some (.int .i64 (p.nr.getD hopN 0))) := Lib.hid (fun w' hw' => (hw'.cell (p := ⟨bn, on + hopN, none⟩) hbn).trans hcn)
  have HCf : Hid (∀ w', Below wc.heap.size wc w' → w'.cell? ⟨bf, of' + hopN, none⟩ = some (.int .i64 (p.fr.getD hopN 0))) := Lib.hid (fun w' hw' => (hw'.cell (p := ⟨bf, of' + hopN, none⟩) hbf).trans hcf)
  clear hr0 hr1 hcn hcf
  generalize p.ks.getD 0 dz8 = k0 at *
  generalize p.ks.getD m dz8 = k1 at *
  generalize p.nr.getD hopN 0 = gn at *
  generalize p.fr.getD hopN 0 = gf at *
  clear c1 c2 c3 c4 c5
  go_upto_region 8 with fail
  obtain ⟨-, z0, z1, z2, z3, z4, z5, z6, z7, z8, z9, z10, z11, z12⟩ := free13 HP8.out
  go_wp2_with fail
  refine HLk.out.mono ?_
  rintro e w9 ⟨A9, n9, c9, he, hr9, hc9, hb⟩
  dsimp only at he hr9
  subst he
  obtain rfl : 2 = n9 := hr9.dlenD
  have Hb9 := Lib.hid (Hb8.out.trans (hb.mono Hb8.out.size))
  have HX9 := Lib.hid (block_below HX8.out hb hlx8)
  have HP9 := Lib.hid (block_below HP8.out hb hlp8)
  have HV9 := Lib.hid hb
  have HR9 := Lib.hid hr9
  clear hb hr9 z0 z1 z2 z3 z4 z5 z6 z7 z8 z9 z10 z11 z12
  go_upto_region 9 with fail
  have HM10 : Hid ((w9.alloc (.cells #[.int .i64 1, .int .u8 p.tb.x0, .int .u8 p.tb.x1, .int .u8 p.tb.x2, .int .u8 p.tb.x3, .int .u8 p.tb.x4, .int .u8 p.tb.x5, .int .u8 p.tb.x6, .int .u8 p.tb.x7, .slice A9 2 c9, .int .i64 kw, .int .i64 st, .int .i64 un] 40)).heap[w9.heap.size]? = some (.cells #[.int .i64 1, .int .u8 p.tb.x0, .int .u8 p.tb.x1, .int .u8 p.tb.x2, .int .u8 p.tb.x3, .int .u8 p.tb.x4, .int .u8 p.tb.x5, .int .u8 p.tb.x6, .int .u8 p.tb.x7, .slice A9 2 c9, .int .i64 kw, .int .i64 st, .int .i64 un] 40 (0, 0))) := heap_alloc_new _ _
  have hal := (Below.refl w9.heap.size w9).alloc (Nat.le_refl _) (.cells #[.int .i64 1, .int .u8 p.tb.x0, .int .u8 p.tb.x1, .int .u8 p.tb.x2, .int .u8 p.tb.x3, .int .u8 p.tb.x4, .int .u8 p.tb.x5, .int .u8 p.tb.x6, .int .u8 p.tb.x7, .slice A9 2 c9, .int .i64 kw, .int .i64 st, .int .i64 un] 40)
  have HX10 := Lib.hid (block_below HX9.out hal (block_lt HX9.out))
  have HP10 := Lib.hid (block_below HP9.out hal (block_lt HP9.out))
  have Hb10 := Lib.hid (Hb9.out.trans (hal.mono Hb9.out.size))
  have HV10 := Lib.hid (HV9.out.trans (hal.mono HV9.out.size))
  have HR10 := Lib.hid ((HR9.out.below hal (Nat.le_refl _)).more hal.size)
  generalize w9.alloc (.cells #[.int .i64 1, .int .u8 p.tb.x0, .int .u8 p.tb.x1, .int .u8 p.tb.x2, .int .u8 p.tb.x3, .int .u8 p.tb.x4, .int .u8 p.tb.x5, .int .u8 p.tb.x6, .int .u8 p.tb.x7, .slice A9 2 c9, .int .i64 kw, .int .i64 st, .int .i64 un] 40) = w10 at *
  obtain ⟨tb, htb⟩ : ∃ z : Nat, w9.heap.size = z := ⟨_, rfl⟩
  rw [htb] at HM10
  rw [htb]
  clear htb hal HX9 HP9 HV9 HR9 Hb9
  obtain ⟨-, z0, z1, z2, z3, z4, z5, z6, z7, z8, z9, z10, z11, z12⟩ := free13 HX10.out
  go_cut [18] (fun s wx => s = .bool true ∧ wx = w10)
  case first =>
   by_cases ck : kw = 0
   ·have q5 : ((kw : Int) == 0) = true := by rw [beq_iff_eq]; omega
    clear ck
    go_wp2_with fail
    go_meet
    exact ⟨rfl, rfl⟩
   ·have q5 : ((kw : Int) == 0) = false := by rw [beq_eq_false_iff_ne]; omega
    have q6 : ((kw : Int) == 1) = true := by rw [beq_iff_eq]; omega
    clear ck
    go_wp2_with fail
    go_meet
    exact ⟨rfl, rfl⟩
  obtain ⟨rfl, hw9⟩ := hcut
  subst hw9
  obtain ⟨w10, hw10⟩ : ∃ z : World, z = wc := ⟨_, rfl⟩
  subst hw10
  go_upto_region 12 with fail
  clear z0 z1 z2 z3 z4 z5 z6 z7 z8 z9 z10 z11 z12
  have hlx := block_lt HX10.out
  have hlp := block_lt HP10.out
  have hlm := block_lt HM10.out
  go_cut [19] (fun s wx => ∃ (lb gb : Nat), s = .pointer (some ⟨lb, 0, none⟩) ∧ wx.heap[lb]? = some (.cells #[.int .i64 1, .int .u8 p.tb.x0, .int .u8 p.tb.x1, .int .u8 p.tb.x2, .int .u8 p.tb.x3, .int .u8 p.tb.x4, .int .u8 p.tb.x5, .int .u8 p.tb.x6, .int .u8 p.tb.x7, .slice (some ⟨gb, 0, none⟩) 2 2, .int .i64 kw, .int .i64 st, .int .i64 gn] 40 (0, 0)) ∧ wx.heap[gb]? = some (.cells #[.int .u8 k0.x0, .int .u8 k0.x1, .int .u8 k0.x2, .int .u8 k0.x3, .int .u8 k0.x4, .int .u8 k0.x5, .int .u8 k0.x6, .int .u8 k0.x7, .int .u8 k1.x0, .int .u8 k1.x1, .int .u8 k1.x2, .int .u8 k1.x3, .int .u8 k1.x4, .int .u8 k1.x5, .int .u8 k1.x6, .int .u8 k1.x7] 27 (0, 0)) ∧ gb ≠ lb ∧ w10.heap.size ≤ lb ∧ Below w10.heap.size w10 wx)
  case first =>
   have HR0 : Hid (∀ w', Below w10.heap.size w10 w' → w'.rangeAt b (o + 0 * 8) k0.cells) := Lib.hid (fun w' hw' => range_below Hr0.out (HV10.out.trans (hw'.mono HV10.out.size)) hbB)
   have HR1 : Hid (∀ w', Below w10.heap.size w10 w' → w'.rangeAt b (o + m * 8) k1.cells) := Lib.hid (fun w' hw' => range_below Hr1.out (HV10.out.trans (hw'.mono HV10.out.size)) hbB)
   have HRn := Lib.hid (fun w' (hw' : Below w10.heap.size w10 w') => HCn.out w' (HV10.out.trans (hw'.mono HV10.out.size)))
   apply vp12 HX10 HP10 HSt HR0 HR1 HRn hh1 hh3 hh5 hnI hwm hki
   ·exact (Lib.hid fun _ _ d _ _ h => by cases d <;> exact h)
   ·refine Lib.hid ?_
    intros
    rename_i h1 h2 h3 h4 h5
    dsimp only
    go_wp2_with fail
    go_meet
    exact ⟨_, _, rfl, h1, h2, h3, h4, h5⟩
   ·kernel_rfl
  case rest =>
   obtain ⟨lb, gb, rfl, hL, hG, hne, hle, hB⟩ := hcut
   have HLb := Lib.hid hL; have HGb := Lib.hid hG; have HBc := Lib.hid hB
   have Hbc := Lib.hid (Hb10.out.trans (hB.mono Hb10.out.size))
   have hszc : gb < wc.heap.size := block_lt hG
   have hbl : w.heap.size ≤ lb := by have := Hb10.out.size; omega
   by_cases ck : kw = 0
   ·have e1 : ((kw : Int) == 1) = false := by rw [beq_eq_false_iff_ne]; omega
    have hu := HU0.out ck
    subst hu
    have HMc := Lib.hid (block_below HM10.out hB hlm)
    have HRc := Lib.hid ((HR10.out.below hB (Nat.le_refl _)).more hB.size)
    have hls := lksame_any ⟨1, p.tb, [k0, k1], (kw : Int), st, un⟩ A9 2 c9 (some ⟨gb, 0, none⟩) 2 wc HRc.out (rd_block HGb.out rfl rfl) (by omega)
    dsimp only at hls
    have HLs := Lib.hid hls
    clear hls hL hG hne hle hB hlx hlm hlp ck
    obtain ⟨-, y0, y1, y2, y3, y4, y5, y6, y7, y8, y9, y10, y11, y12⟩ := free13 HMc.out
    obtain ⟨-, v0, v1, v2, v3, v4, v5, v6, v7, v8, v9, v10, v11, v12⟩ := free13 HLb.out
    go_upto_region 15 with fail
    go_wp2_with fail
    refine HLs.out.mono ?_
    rintro e wz ⟨rfl, hb⟩
    have Hbz := Lib.hid (Hbc.out.trans (hb.mono Hbc.out.size))
    clear hb
    go_wp2
    go_ret
    exact ⟨rfl, Hbz.out⟩
   ·have e1 : ((kw : Int) == 1) = true := by rw [beq_iff_eq]; omega
    have hu := HU1.out (by omega)
    subst hu
    have HXc := Lib.hid (block_below HX10.out hB hlx)
    have hcf := HCf.out wc (HV10.out.trans (hB.mono HV10.out.size))
    clear hL hG hB ck
    obtain ⟨-, z0, z1, z2, z3, z4, z5, z6, z7, z8, z9, z10, z11, z12⟩ := free13 HXc.out
    obtain ⟨zf, v0, v1, v2, v3, v4, v5, v6, v7, v8, v9, v10, v11, v12⟩ := free13 HLb.out
    go_upto_region 15 with fail
    have h8 := Joins.block_setCell (i := 12) HLb.out (.int .i64 un)
    have g8 := pgrown_set (w := wc) lb 12 (.int .i64 un)
    simp at h8
    have HLd := Lib.hid h8
    have HGd := Lib.hid ((g8.block gb hszc (by intro e; injection e with e; exact hne e)).trans HGb.out)
    have HBd := Lib.hid (HBc.out.grown g8 HBc.out.size (fun k hk => by injection hk with hk; omega))
    have Hbd := Lib.hid (Hbc.out.grown g8 Hbc.out.size (fun k hk => by injection hk with hk; omega))
    clear h8 g8 zf v0 v1 v2 v3 v4 v5 v6 v7 v8 v9 v10 v11 v12 z0 z1 z2 z3 z4 z5 z6 z7 z8 z9 z10 z11 z12 hcf
    generalize wc.setCell ⟨lb, 12, none⟩ (.int .i64 un) = wd at *
    have HMd := Lib.hid (block_below HM10.out HBd.out hlm)
    have HRd := Lib.hid ((HR10.out.below HBd.out (Nat.le_refl _)).more HBd.out.size)
    have hls := lksame_any ⟨1, p.tb, [k0, k1], (kw : Int), st, un⟩ A9 2 c9 (some ⟨gb, 0, none⟩) 2 wd HRd.out (rd_block HGd.out rfl rfl) (by omega)
    dsimp only at hls
    have HLs := Lib.hid hls
    clear hls hne hle hlx hlm hlp
    obtain ⟨-, y0, y1, y2, y3, y4, y5, y6, y7, y8, y9, y10, y11, y12⟩ := free13 HMd.out
    obtain ⟨-, v0, v1, v2, v3, v4, v5, v6, v7, v8, v9, v10, v11, v12⟩ := free13 HLd.out
    go_wp2_with fail
    refine HLs.out.mono ?_
    rintro e wz ⟨rfl, hb⟩
    have Hbz := Lib.hid (Hbd.out.trans (hb.mono Hbd.out.size))
    clear hb
    go_wp2
    go_ret
    exact ⟨rfl, Hbz.out⟩
end
end Go.Proofs.YthhiookcknnmdaaGreat
