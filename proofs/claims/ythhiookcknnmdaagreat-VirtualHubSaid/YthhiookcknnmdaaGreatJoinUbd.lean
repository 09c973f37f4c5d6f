/- What an honest hub does, plainly. No program in it, so there is no condition. The walk of Act.mine: is an act a hub's own? Conditions: bounds. The walk of an honest hub's turn. Conditions: the law's world lies in memory. -/
import Derived.Test.YthhiookcknnmdaaGreatJoinUba
import Derived.Test.YthhiookcknnmdaaGreatJoinUbb
namespace Go.Proofs.YthhiookcknnmdaaGreat
def hubA (y : Wy) (L : List En) (party : Nat) : Wy × List En := if y.stI ((party : Int) - 1) 0 = 1 ∧ y.stI party 0 = 1 then ((lawAgree y L party).2.1, (lawAgree y L party).2.2) else (y, L)
def hubB (y : Wy) (L : List En) (party : Nat) (now : Int) : Wy := if y.stI party 0 = 2 then (y.open_ L ((party : Int) - 1) 0 now (y.stO party 0)).2 else y
def hubC (y : Wy) (L : List En) (party : Nat) (now : Int) : Wy := if y.stI ((party : Int) - 1) 1 = 2 then (y.open_ L party 1 now (y.stO ((party : Int) - 1) 1)).2 else y
def hubD (y : Wy) (party : Nat) (now : Int) : Wy := ((y.back party 0 now).2.back ((party : Int) - 1) 1 now).2
def lawHub (y : Wy) (L : List En) (party : Nat) (now : Int) : Wy × List En :=
 (hubD (hubC (hubB (hubA y L party).1 (hubA y L party).2 party now) (hubA y L party).2 party now) party now, (hubA y L party).2)
def Ac.mine (x : Ac) (party : Int) : Bool := ((x.w : Int) % 4 == 1 && x.party == party) || ((x.w : Int) % 4 == 2 && ((x.hop == party - 1 && x.wh == 0) || (x.hop == party && x.wh == 1)))
theorem hub_len (y : Wy) (L : List En) (party : Nat) (now : Int) : (lawHub y L party now).2.length ≤ L.length + 1 := by
 show (hubA y L party).2.length ≤ _
 unfold hubA
 split
 ·exact signE_len _ _
 ·exact Nat.le_succ _
end Go.Proofs.YthhiookcknnmdaaGreat
namespace Go.Proofs.YthhiookcknnmdaaGreat
open Go.RowKit Go.Lib
set_option maxRecDepth 100000 in
set_option maxHeartbeats 8000000 in
theorem mine_any (x : Ac) (party : Nat) (hp : 1 ≤ party ∧ party ≤ 100) (w : World) : Calls Tryz.prog 37 #[.agg #[.int .u8 x.w, .int .u8 x.by_, .int .i64 x.hop, .int .i64 x.wh, .int .i64 x.party, .int .i64 x.a, .int .i64 x.b, .bool x.bad], .int .i64 party] w fun e w' => e = .returned (.bool (x.mine party)) ∧ Below w.heap.size w w' := by
 obtain ⟨hp1, hp2⟩ := hp
 have HX : Hid ((w.alloc (.cells #[.int .u8 x.w, .int .u8 x.by_, .int .i64 x.hop, .int .i64 x.wh, .int .i64 x.party, .int .i64 x.a, .int .i64 x.b, .bool x.bad] 78)).heap[w.heap.size]? = some (.cells #[.int .u8 x.w, .int .u8 x.by_, .int .i64 x.hop, .int .i64 x.wh, .int .i64 x.party, .int .i64 x.a, .int .i64 x.b, .bool x.bad] 78 (0, 0))) := heap_alloc_new _ _
 have HB := Lib.hid (below_one w (.cells #[.int .u8 x.w, .int .u8 x.by_, .int .i64 x.hop, .int .i64 x.wh, .int .i64 x.party, .int .i64 x.a, .int .i64 x.b, .bool x.bad] 78))
 have hpm : IntKind.i64.wrap ((party : Int) - 1) = (party : Int) - 1 := wrapI_id (by omega) (by omega)
 have HM : Hid (x.mine party = (((x.w : Int) % 4 == 1 && x.party == (party : Int)) || ((x.w : Int) % 4 == 2 && ((x.hop == (party : Int) - 1 && x.wh == 0) || (x.hop == (party : Int) && x.wh == 1))))) := Lib.hid rfl
 go_enter Tryz.func37, Tryz.ntmps37
 go_upto_region 1 with fail
 generalize w.alloc (.cells #[.int .u8 x.w, .int .u8 x.by_, .int .i64 x.hop, .int .i64 x.wh, .int .i64 x.party, .int .i64 x.a, .int .i64 x.b, .bool x.bad] 78) = w0 at *
 obtain ⟨r0, r2, r3, r4⟩ : w0.cell? ⟨w.heap.size, 0, none⟩ = some (.int .u8 x.w) ∧ w0.cell? ⟨w.heap.size, 2, none⟩ = some (.int .i64 x.hop) ∧ w0.cell? ⟨w.heap.size, 3, none⟩ = some (.int .i64 x.wh) ∧ w0.cell? ⟨w.heap.size, 4, none⟩ = some (.int .i64 x.party) := ⟨block_cell HX.out 0, block_cell HX.out 2, block_cell HX.out 3, block_cell HX.out 4⟩
 obtain ⟨c1, b1⟩ : ∃ c, ((x.w : Int) % 4 == 1) = c := ⟨_, rfl⟩
 obtain ⟨c2, b2⟩ : ∃ c, (x.party == (party : Int)) = c := ⟨_, rfl⟩
 obtain ⟨c3, b3⟩ : ∃ c, ((x.w : Int) % 4 == 2) = c := ⟨_, rfl⟩
 obtain ⟨c4, b4⟩ : ∃ c, (x.hop == (party : Int) - 1) = c := ⟨_, rfl⟩
 obtain ⟨c5, b5⟩ : ∃ c, (x.wh == 0) = c := ⟨_, rfl⟩
 obtain ⟨c6, b6⟩ : ∃ c, (x.hop == (party : Int)) = c := ⟨_, rfl⟩
 obtain ⟨c7, b7⟩ : ∃ c, (x.wh == 1) = c := ⟨_, rfl⟩
 rw [b1, b2, b3, b4, b5, b6, b7] at HM
 cases hc1 : c1 with
 | true =>
  subst hc1
  cases hc2 : c2 with
  | true =>
   subst hc2
   ·go_wp2
    go_ret
    exact ⟨by rw [HM.out]; rfl, HB.out⟩
  | false =>
   subst hc2
   cases hc3 : c3 with
   | false =>
    subst hc3
    ·go_wp2
     go_ret
     exact ⟨by rw [HM.out]; rfl, HB.out⟩
   | true =>
    subst hc3
    cases hc4 : c4 with
    | true =>
     subst hc4
     cases hc5 : c5 with
     | true =>
      subst hc5
      ·go_wp2
       go_ret
       exact ⟨by rw [HM.out]; rfl, HB.out⟩
     | false =>
      subst hc5
      cases hc6 : c6 with
      | false =>
       subst hc6
       ·go_wp2
        go_ret
        exact ⟨by rw [HM.out]; rfl, HB.out⟩
      | true =>
       subst hc6
       cases hc7 : c7 with
       | false =>
        subst hc7
        ·go_wp2
         go_ret
         exact ⟨by rw [HM.out]; rfl, HB.out⟩
       | true =>
        subst hc7
        ·go_wp2
         go_ret
         exact ⟨by rw [HM.out]; rfl, HB.out⟩
    | false =>
     subst hc4
     cases hc6 : c6 with
     | false =>
      subst hc6
      ·go_wp2
       go_ret
       exact ⟨by rw [HM.out]; rfl, HB.out⟩
     | true =>
      subst hc6
      cases hc7 : c7 with
      | false =>
       subst hc7
       ·go_wp2
        go_ret
        exact ⟨by rw [HM.out]; rfl, HB.out⟩
      | true =>
       subst hc7
       ·go_wp2
        go_ret
        exact ⟨by rw [HM.out]; rfl, HB.out⟩
 | false =>
  subst hc1
  cases hc3 : c3 with
  | false =>
   subst hc3
   ·go_wp2
    go_ret
    exact ⟨by rw [HM.out]; rfl, HB.out⟩
  | true =>
   subst hc3
   cases hc4 : c4 with
   | true =>
    subst hc4
    cases hc5 : c5 with
    | true =>
     subst hc5
     ·go_wp2
      go_ret
      exact ⟨by rw [HM.out]; rfl, HB.out⟩
    | false =>
     subst hc5
     cases hc6 : c6 with
     | false =>
      subst hc6
      ·go_wp2
       go_ret
       exact ⟨by rw [HM.out]; rfl, HB.out⟩
     | true =>
      subst hc6
      cases hc7 : c7 with
      | false =>
       subst hc7
       ·go_wp2
        go_ret
        exact ⟨by rw [HM.out]; rfl, HB.out⟩
      | true =>
       subst hc7
       ·go_wp2
        go_ret
        exact ⟨by rw [HM.out]; rfl, HB.out⟩
   | false =>
    subst hc4
    cases hc6 : c6 with
    | false =>
     subst hc6
     ·go_wp2
      go_ret
      exact ⟨by rw [HM.out]; rfl, HB.out⟩
    | true =>
     subst hc6
     cases hc7 : c7 with
     | false =>
      subst hc7
      ·go_wp2
       go_ret
       exact ⟨by rw [HM.out]; rfl, HB.out⟩
     | true =>
      subst hc7
      ·go_wp2
       go_ret
       exact ⟨by rw [HM.out]; rfl, HB.out⟩
section
variable {w : World} {B Bb wob wb bk mb : Nat} {y : Wy} {a : WyA} {L : List En} {Ak : Option Addr} {nk ck : Nat} {An : Option Addr} {nn cn : Nat} {Af : Option Addr} {nf cf : Nat} {vp : Value}
theorem LwAt.pun (h : LwAt w B Bb wob wb bk mb y a L Ak nk ck An nn cn Af nf cf vp) (hk : nk ≤ 101) : y.pu.length ≤ 100 := by
 have h1 := h.ok.np
 have h2 := (Rd.of_own h.pl.k).dlenD
 omega
set_option maxRecDepth 100000 in
set_option maxHeartbeats 8000000 in
theorem hub_any (h : LwAt w B Bb wob wb bk mb y a L Ak nk ck An nn cn Af nf cf vp) (hn : nk ≤ 101) (party : Nat) (hp : 1 ≤ party ∧ party ≤ 100) (hlen : L.length < 49000) (now : Int) :
  Calls Tryz.prog 36 #[.pointer (some ⟨wob, 0, none⟩), .int .i64 party, .int .i64 now] w fun e w' => e = .returned (.tuple #[]) ∧ ∃ a', LwAt w' B Bb wob wb bk mb (lawHub y L party now).1 a' (lawHub y L party now).2 Ak nk ck An nn cn Af nf cf vp ∧ a.sameF a' ∧ LChg a bk mb w w' := by
 obtain ⟨hp1, hp2⟩ := hp
 have HL := Lib.hid h
 have Hn := Lib.hid hn
 have HC : Hid (LChg a bk mb w w) := Lib.hid (.refl _ _ _ _)
 have HS : Hid (a.sameF a) := Lib.hid (.refl _)
 have hpm : IntKind.i64.wrap ((party : Int) - 1) = (party : Int) - 1 := wrapI_id (by omega) (by omega)
 have HW : Hid (lawHub y L party now = (hubD (hubC (hubB (hubA y L party).1 (hubA y L party).2 party now) (hubA y L party).2 party now) party now, (hubA y L party).2)) := Lib.hid rfl
 have HLm : Hid (L.length < 49000) := Lib.hid hlen
 clear h hn hlen
 go_enter Tryz.func36, Tryz.ntmps36
 have hc0 := block_cell HL.out.box 0
 simp at hc0
 have hst := state_any HL.out.way (HL.out.pun Hn.out) (((party : Int) - 1)) 0
 have HSt := Lib.hid hst
 clear hst
 go_upto_region 1 with (go_at_call 41; refine HSt.out.mono ?_; rintro e v1 ⟨Ap, np, cp, As, ns, cs, rfl, hou, hb1⟩; have HOu := Lib.hid hou; have Hb1 := Lib.hid hb1; clear hou hb1 hc0)
 obtain ⟨xb, hxb⟩ : ∃ z, v1.heap.size = z := ⟨_, rfl⟩
 generalize hwN : World.alloc v1 _ = wN at *
 have hbN : Below v1.heap.size v1 wN := by rw [← hwN]; exact below_one _ _
 have HX : Hid (wN.heap[xb]? = some (.cells #[.slice Ap np cp, .slice As ns cs] 59 (0, 0))) := Lib.hid (by rw [← hwN, ← hxb]; exact heap_alloc_new _ _)
 have hbM := Hb1.out.trans (hbN.mono Hb1.out.size)
 have HL := Lib.hid (HL.out.below hbM)
 have HC := Lib.hid (HC.out.trans (.of_below (a := a) (bk := bk) (mb := mb) hbM))
 have HO := Lib.hid (HOu.out.below hbN)
 rw [hxb]
 clear hwN hbN hbM HSt HOu Hb1 hxb
 clear HO HX
 have hc0 := block_cell HL.out.box 0
 simp at hc0
 have hst := state_any HL.out.way (HL.out.pun Hn.out) ((party : Int)) 0
 have HSt := Lib.hid hst
 clear hst
 go_upto_region 2 with (go_at_call 41; refine HSt.out.mono ?_; rintro e v1 ⟨Ap, np, cp, As, ns, cs, rfl, hou, hb1⟩; have HOu := Lib.hid hou; have Hb1 := Lib.hid hb1; clear hou hb1 hc0)
 obtain ⟨xb, hxb⟩ : ∃ z, v1.heap.size = z := ⟨_, rfl⟩
 generalize hwN : World.alloc v1 _ = wN at *
 have hbN : Below v1.heap.size v1 wN := by rw [← hwN]; exact below_one _ _
 have HX : Hid (wN.heap[xb]? = some (.cells #[.slice Ap np cp, .slice As ns cs] 59 (0, 0))) := Lib.hid (by rw [← hwN, ← hxb]; exact heap_alloc_new _ _)
 have hbM := Hb1.out.trans (hbN.mono Hb1.out.size)
 have HL := Lib.hid (HL.out.below hbM)
 have HC := Lib.hid (HC.out.trans (.of_below (a := a) (bk := bk) (mb := mb) hbM))
 have HO := Lib.hid (HOu.out.below hbN)
 rw [hxb]
 clear hwN hbN hbM HSt HOu Hb1 hxb
 clear HO HX
 obtain ⟨r, hr⟩ : ∃ z, hubA y L party = z := ⟨_, rfl⟩
 have hA := hr
 unfold hubA at hA
 generalize hs1 : y.stI ((party : Int) - 1) 0 = s1 at *
 generalize hs2 : y.stI (party : Int) 0 = s2 at *
 have HA := Lib.hid hA; have HR := Lib.hid hr
 clear hA hr hs1 hs2
 go_cut [38] (fun s wx => s = .bool (s1 == 1 && s2 == 1) ∧ wx = wN)
 case first =>
  cases b1 : (s1 == 1) with
  | false =>
   go_wp2_with fail
   go_meet
   exact ⟨by rw [b1]; rfl, rfl⟩
  | true =>
   go_wp2_with fail
   go_meet
   exact ⟨by rw [b1]; rfl, rfl⟩
 obtain ⟨rfl, rfl⟩ := hcut
 obtain ⟨bb, hbb⟩ : ∃ b, (s1 == 1 && s2 == 1) = b := ⟨_, rfl⟩
 rw [hbb]
 have HBB := Lib.hid hbb
 clear hbb
 go_upto_if 38 with fail
 go_cut [] (fun wx => ∃ ax, LwAt wx B Bb wob wb bk mb r.1 ax r.2 Ak nk ck An nn cn Af nf cf vp ∧ a.sameF ax ∧ LChg a bk mb w wx)
 case first =>
  by_cases c : s1 = 1 ∧ s2 = 1
  ·have hb : bb = true := by rw [← HBB.out, c.1, c.2]; rfl
   subst hb
   have hA := HA.out
   rw [if_pos c] at hA
   have hla := lagree_any HL.out party (by omega) (by have := HLm.out; omega)
   have HZ := Lib.hid hA
   have HLa := Lib.hid hla
   clear hA hla c
   go_wp2_with (go_at_call 24; refine HLa.out.mono ?_; rintro e w3 ⟨rfl, a3, h1, h2, h3⟩; have HLz := Lib.hid h1; have HSz := Lib.hid h2; have HCz := Lib.hid (HC.out.trans h3); clear h1 h2 h3)
   go_meet
   rw [← HZ.out]
   exact ⟨a3, HLz.out, HSz.out, HCz.out⟩
  ·have hb : bb = false := by
    rw [← HBB.out]
    cases e1 : (s1 == 1) with
    | false => rfl
    | true =>
     cases e2 : (s2 == 1) with
     | false => rfl
     | true => exact absurd ⟨by simpa using e1, by simpa using e2⟩ c
   subst hb
   have hA := HA.out
   rw [if_neg c] at hA
   have HZ := Lib.hid hA
   clear hA c
   go_wp2_with fail
   go_meet
   rw [← HZ.out]
   exact ⟨a, HL.out, HS.out, HC.out⟩
 obtain ⟨ax, h1, h2, h3⟩ := hcut
 have HL := Lib.hid h1; have HS := Lib.hid h2; have HC := Lib.hid h3
 clear h1 h2 h3
 obtain ⟨w3, hwc⟩ : ∃ z : World, z = wc := ⟨_, rfl⟩
 subst hwc
 have hL1 : r.2.length ≤ L.length + 1 := by
  rw [← HR.out]
  unfold hubA
  split
  ·exact signE_len _ _
  ·exact Nat.le_succ _
 have HLn : Hid (r.2.length < 60000) := Lib.hid (by have := HLm.out; omega)
 rw [HR.out] at HW
 obtain ⟨y1, L1⟩ := r
 dsimp only at HL HLn HW
 clear hL1 HA HR
 have hc0 := block_cell HL.out.box 0
 simp at hc0
 have hst := state_any HL.out.way (HL.out.pun Hn.out) ((party : Int)) 0
 have HSt := Lib.hid hst
 clear hst
 go_upto_region 5 with (go_at_call 41; refine HSt.out.mono ?_; rintro e v1 ⟨Ap, np, cp, As, ns, cs, rfl, hou, hb1⟩; have HOu := Lib.hid hou; have Hb1 := Lib.hid hb1; clear hou hb1 hc0)
 obtain ⟨xb, hxb⟩ : ∃ z, v1.heap.size = z := ⟨_, rfl⟩
 generalize hwN : World.alloc v1 _ = wN at *
 have hbN : Below v1.heap.size v1 wN := by rw [← hwN]; exact below_one _ _
 have HX : Hid (wN.heap[xb]? = some (.cells #[.slice Ap np cp, .slice As ns cs] 59 (0, 0))) := Lib.hid (by rw [← hwN, ← hxb]; exact heap_alloc_new _ _)
 have hbM := Hb1.out.trans (hbN.mono Hb1.out.size)
 have HL := Lib.hid (HL.out.below hbM)
 have HC := Lib.hid (HC.out.trans (.of_below (a := a) (bk := bk) (mb := mb) hbM))
 have HO := Lib.hid (HOu.out.below hbN)
 rw [hxb]
 clear hwN hbN hbM HSt HOu Hb1 hxb
 obtain ⟨y2, hy2⟩ : ∃ z, hubB y1 L1 party now = z := ⟨_, rfl⟩
 rw [hy2] at HW
 unfold hubB at hy2
 obtain ⟨so, hso⟩ : ∃ z, y1.stO (party : Int) 0 = z := ⟨_, rfl⟩
 obtain ⟨si, hsi⟩ : ∃ z, y1.stI (party : Int) 0 = z := ⟨_, rfl⟩
 rw [hso] at HO
 rw [hso, hsi] at hy2
 rw [hsi]
 have HY := Lib.hid hy2
 clear hy2 hso hsi
 go_upto_if 52 with fail
 go_cut [] (fun wx => ∃ ax, LwAt wx B Bb wob wb bk mb y2 ax L1 Ak nk ck An nn cn Af nf cf vp ∧ a.sameF ax ∧ LChg a bk mb w wx)
 case first =>
  by_cases c : si = 2
  ·have hb : (si == 2) = true := by rw [c]; rfl
   have hY := HY.out
   rw [if_pos c] at hY
   have HZ := Lib.hid hY
   have HBx : Hid (wN.heap[wob]? = some (.cells #[.pointer (some ⟨wb, 0, none⟩), .int .u8 y1.pl.tb.x0, .int .u8 y1.pl.tb.x1, .int .u8 y1.pl.tb.x2, .int .u8 y1.pl.tb.x3, .int .u8 y1.pl.tb.x4, .int .u8 y1.pl.tb.x5, .int .u8 y1.pl.tb.x6, .int .u8 y1.pl.tb.x7, .slice Ak nk ck, .int .i64 y1.pl.s0, .int .i64 y1.pl.s1, .slice An nn cn, .slice Af nf cf, .pointer (some ⟨bk, 0, none⟩), .int .i64 10, vp] 54 (0, 0))) := Lib.hid HL.out.box
   clear hY c
   go_upto_region 6 with fail
   refine wp_region_held_drew (S := fun w' => w'.heap[wob]? = some (.cells #[.pointer (some ⟨wb, 0, none⟩), .int .u8 y1.pl.tb.x0, .int .u8 y1.pl.tb.x1, .int .u8 y1.pl.tb.x2, .int .u8 y1.pl.tb.x3, .int .u8 y1.pl.tb.x4, .int .u8 y1.pl.tb.x5, .int .u8 y1.pl.tb.x6, .int .u8 y1.pl.tb.x7, .slice Ak nk ck, .int .i64 y1.pl.s0, .int .i64 y1.pl.s1, .slice An nn cn, .slice Af nf cf, .pointer (some ⟨bk, 0, none⟩), .int .i64 10, vp] 54 (0, 0)) ∧ w'.heap[xb]? = some (.cells #[.slice Ap np cp, .slice As ns cs] 59 (0, 0))) (by kernel_rfl) ⟨HBx.out, HX.out⟩ (fun hHeld => ?_)
   have hc1 : ∀ w' : World, (w'.heap[wob]? = some (.cells #[.pointer (some ⟨wb, 0, none⟩), .int .u8 y1.pl.tb.x0, .int .u8 y1.pl.tb.x1, .int .u8 y1.pl.tb.x2, .int .u8 y1.pl.tb.x3, .int .u8 y1.pl.tb.x4, .int .u8 y1.pl.tb.x5, .int .u8 y1.pl.tb.x6, .int .u8 y1.pl.tb.x7, .slice Ak nk ck, .int .i64 y1.pl.s0, .int .i64 y1.pl.s1, .slice An nn cn, .slice Af nf cf, .pointer (some ⟨bk, 0, none⟩), .int .i64 10, vp] 54 (0, 0)) ∧ w'.heap[xb]? = some (.cells #[.slice Ap np cp, .slice As ns cs] 59 (0, 0))) → w'.cell? ⟨wob, 0, none⟩ = some (.pointer (some ⟨wb, 0, none⟩)) := fun w' hw' => by have := block_cell hw'.1 0; simpa using this
   refine takP 0 53 ?_ rfl (by kernel_rfl) (fun _ _ _ => id) ?hy (by assumption) ?_
   case hy => intro w' h; clear h; go_simp; try with_reducible rfl
   simp only [Act.put, sT]
   refine takP 1 54 ?_ rfl (by kernel_rfl) (fun _ _ _ => id) ?hy (by assumption) ?_
   case hy => intro w' h; clear h; go_simp; try with_reducible rfl
   simp only [Act.put, sT]
   refine takP 2 55 ?_ rfl (by kernel_rfl) (fun _ _ _ => id) ?hy (by assumption) ?_
   case hy => intro w' h; clear h; go_simp; try with_reducible rfl
   simp only [Act.put, sT]
   refine takP 3 56 ?_ rfl (by kernel_rfl) (fun _ _ _ => id) ?hy (by assumption) ?_
   case hy => intro w' h; have hx := hc1 w' h; clear h; go_simp; try with_reducible rfl
   simp only [Act.put, sT]
   refine takP 4 57 ?_ rfl (by kernel_rfl) (fun _ _ _ => id) ?hy (by assumption) ?_
   case hy => intro w' h; clear h; go_simp; try with_reducible rfl
   simp only [Act.put, sT]
   refine takP 5 58 ?_ rfl (by kernel_rfl) (fun _ _ _ => id) ?hy (by assumption) ?_
   case hy => intro w' h; clear h; go_simp; try with_reducible rfl
   simp only [Act.put, sT]
   refine takP 6 59 ?_ rfl (by kernel_rfl) (fun _ _ _ => id) ?hy (by assumption) ?_
   case hy => intro w' h; clear h; go_simp; try with_reducible rfl
   simp only [Act.put, sT]
   refine takeK 7 (some 60) (v := .agg ([.slice Ap np cp, .slice As ns cs] : List Value).toArray) rfl (by kernel_rfl) (by kernel_rfl) (fun _ _ _ => id) (yieldsIf_load_mid (by kernel_rfl) 59 _ (by rfl) (xb) (0) (by rfl) [.slice Ap np cp, .slice As ns cs] _ (fun w' hw' => range_all hw'.2) Tryz.underlying59 rfl (by kernel_rfl)) (by assumption) ?_
   simp only [Act.put, sT]
   refine wpAnyH_ready (rs := [8]) (by kernel_rfl) (by simp) ?_
   refine AllReadyH.cons rfl (fun K hK => ?_) AllReadyH.nil
   try simp only [List.getElem_toArray, List.getElem_cons_zero, List.getElem_cons_succ]
   go_simp
   go_at_call 26
   refine (lopen_any (HL.out.below (Below.refl _ _).drew) (by have := HLn.out; omega) (((party : Int) - 1)) 0 now so Ap np cp As ns cs (HO.out.below (Below.refl _ _).drew)).mono ?_
   rintro e wn ⟨rfl, an, h1, h2, h3⟩
   have hSn := And.intro ((HL.out.below (Below.refl _ _).drew).keep h3 HBx.out (by decide) (by decide) (by decide) (by decide)) ((HL.out.below (Below.refl _ _).drew).keep h3 HX.out (by decide) (by decide) (by decide) (by decide))
   have HLz := Lib.hid h1; have HSz := Lib.hid (HS.out.trans h2)
   have HCz := Lib.hid (HC.out.trans ((LChg.of_below (a := a) (bk := bk) (mb := mb) (Below.refl _ _).drew).trans (h3.same HS.out)))
   clear h1 h2 h3 hc1
   refine hK.out _ _ hSn (fun _ => ?_)
   clear hK K
   try simp only [Act.put, sT]
   clear hSn
   refine wpAnyH_done (by kernel_rfl) ?_ _
   go_wp2_with fail
   go_meet
   rw [← HZ.out]
   exact ⟨an, HLz.out, HSz.out, HCz.out⟩
  ·have hb : (si == 2) = false := by simpa using c
   have hY := HY.out
   rw [if_neg c] at hY
   have HZ := Lib.hid hY
   clear hY c
   go_wp2_with fail
   go_meet
   rw [← HZ.out]
   exact ⟨ax, HL.out, HS.out, HC.out⟩
 clear HY HO HX
 obtain ⟨ax, h1, h2, h3⟩ := hcut
 have HL := Lib.hid h1; have HS := Lib.hid h2; have HC := Lib.hid h3
 clear h1 h2 h3
 obtain ⟨w5, hwc⟩ : ∃ z : World, z = wc := ⟨_, rfl⟩
 subst hwc
 have hc0 := block_cell HL.out.box 0
 simp at hc0
 have hst := state_any HL.out.way (HL.out.pun Hn.out) (((party : Int) - 1)) 1
 have HSt := Lib.hid hst
 clear hst
 go_upto_region 8 with (go_at_call 41; refine HSt.out.mono ?_; rintro e v1 ⟨Ap, np, cp, As, ns, cs, rfl, hou, hb1⟩; have HOu := Lib.hid hou; have Hb1 := Lib.hid hb1; clear hou hb1 hc0)
 obtain ⟨xb, hxb⟩ : ∃ z, v1.heap.size = z := ⟨_, rfl⟩
 generalize hwN : World.alloc v1 _ = wN at *
 have hbN : Below v1.heap.size v1 wN := by rw [← hwN]; exact below_one _ _
 have HX : Hid (wN.heap[xb]? = some (.cells #[.slice Ap np cp, .slice As ns cs] 59 (0, 0))) := Lib.hid (by rw [← hwN, ← hxb]; exact heap_alloc_new _ _)
 have hbM := Hb1.out.trans (hbN.mono Hb1.out.size)
 have HL := Lib.hid (HL.out.below hbM)
 have HC := Lib.hid (HC.out.trans (.of_below (a := a) (bk := bk) (mb := mb) hbM))
 have HO := Lib.hid (HOu.out.below hbN)
 rw [hxb]
 clear hwN hbN hbM HSt HOu Hb1 hxb
 obtain ⟨y3, hy3⟩ : ∃ z, hubC y2 L1 party now = z := ⟨_, rfl⟩
 rw [hy3] at HW
 unfold hubC at hy3
 obtain ⟨so, hso⟩ : ∃ z, y2.stO ((party : Int) - 1) 1 = z := ⟨_, rfl⟩
 obtain ⟨si, hsi⟩ : ∃ z, y2.stI ((party : Int) - 1) 1 = z := ⟨_, rfl⟩
 rw [hso] at HO
 rw [hso, hsi] at hy3
 rw [hsi]
 have HY := Lib.hid hy3
 clear hy3 hso hsi
 go_upto_if 73 with fail
 go_cut [] (fun wx => ∃ ax, LwAt wx B Bb wob wb bk mb y3 ax L1 Ak nk ck An nn cn Af nf cf vp ∧ a.sameF ax ∧ LChg a bk mb w wx)
 case first =>
  by_cases c : si = 2
  ·have hb : (si == 2) = true := by rw [c]; rfl
   have hY := HY.out
   rw [if_pos c] at hY
   have HZ := Lib.hid hY
   have HBx : Hid (wN.heap[wob]? = some (.cells #[.pointer (some ⟨wb, 0, none⟩), .int .u8 y2.pl.tb.x0, .int .u8 y2.pl.tb.x1, .int .u8 y2.pl.tb.x2, .int .u8 y2.pl.tb.x3, .int .u8 y2.pl.tb.x4, .int .u8 y2.pl.tb.x5, .int .u8 y2.pl.tb.x6, .int .u8 y2.pl.tb.x7, .slice Ak nk ck, .int .i64 y2.pl.s0, .int .i64 y2.pl.s1, .slice An nn cn, .slice Af nf cf, .pointer (some ⟨bk, 0, none⟩), .int .i64 10, vp] 54 (0, 0))) := Lib.hid HL.out.box
   clear hY c
   go_upto_region 9 with fail
   refine wp_region_held_drew (S := fun w' => w'.heap[wob]? = some (.cells #[.pointer (some ⟨wb, 0, none⟩), .int .u8 y2.pl.tb.x0, .int .u8 y2.pl.tb.x1, .int .u8 y2.pl.tb.x2, .int .u8 y2.pl.tb.x3, .int .u8 y2.pl.tb.x4, .int .u8 y2.pl.tb.x5, .int .u8 y2.pl.tb.x6, .int .u8 y2.pl.tb.x7, .slice Ak nk ck, .int .i64 y2.pl.s0, .int .i64 y2.pl.s1, .slice An nn cn, .slice Af nf cf, .pointer (some ⟨bk, 0, none⟩), .int .i64 10, vp] 54 (0, 0)) ∧ w'.heap[xb]? = some (.cells #[.slice Ap np cp, .slice As ns cs] 59 (0, 0))) (by kernel_rfl) ⟨HBx.out, HX.out⟩ (fun hHeld => ?_)
   have hc1 : ∀ w' : World, (w'.heap[wob]? = some (.cells #[.pointer (some ⟨wb, 0, none⟩), .int .u8 y2.pl.tb.x0, .int .u8 y2.pl.tb.x1, .int .u8 y2.pl.tb.x2, .int .u8 y2.pl.tb.x3, .int .u8 y2.pl.tb.x4, .int .u8 y2.pl.tb.x5, .int .u8 y2.pl.tb.x6, .int .u8 y2.pl.tb.x7, .slice Ak nk ck, .int .i64 y2.pl.s0, .int .i64 y2.pl.s1, .slice An nn cn, .slice Af nf cf, .pointer (some ⟨bk, 0, none⟩), .int .i64 10, vp] 54 (0, 0)) ∧ w'.heap[xb]? = some (.cells #[.slice Ap np cp, .slice As ns cs] 59 (0, 0))) → w'.cell? ⟨wob, 0, none⟩ = some (.pointer (some ⟨wb, 0, none⟩)) := fun w' hw' => by have := block_cell hw'.1 0; simpa using this
   refine takP 0 74 ?_ rfl (by kernel_rfl) (fun _ _ _ => id) ?hy (by assumption) ?_
   case hy => intro w' h; clear h; go_simp; try with_reducible rfl
   simp only [Act.put, sT]
   refine takP 1 75 ?_ rfl (by kernel_rfl) (fun _ _ _ => id) ?hy (by assumption) ?_
   case hy => intro w' h; clear h; go_simp; try with_reducible rfl
   simp only [Act.put, sT]
   refine takP 2 76 ?_ rfl (by kernel_rfl) (fun _ _ _ => id) ?hy (by assumption) ?_
   case hy => intro w' h; clear h; go_simp; try with_reducible rfl
   simp only [Act.put, sT]
   refine takP 3 77 ?_ rfl (by kernel_rfl) (fun _ _ _ => id) ?hy (by assumption) ?_
   case hy => intro w' h; have hx := hc1 w' h; clear h; go_simp; try with_reducible rfl
   simp only [Act.put, sT]
   refine takP 4 78 ?_ rfl (by kernel_rfl) (fun _ _ _ => id) ?hy (by assumption) ?_
   case hy => intro w' h; clear h; go_simp; try with_reducible rfl
   simp only [Act.put, sT]
   refine takP 5 79 ?_ rfl (by kernel_rfl) (fun _ _ _ => id) ?hy (by assumption) ?_
   case hy => intro w' h; clear h; go_simp; try with_reducible rfl
   simp only [Act.put, sT]
   refine takeK 6 (some 80) (v := .agg ([.slice Ap np cp, .slice As ns cs] : List Value).toArray) rfl (by kernel_rfl) (by kernel_rfl) (fun _ _ _ => id) (yieldsIf_load_mid (by kernel_rfl) 59 _ (by rfl) (xb) (0) (by rfl) [.slice Ap np cp, .slice As ns cs] _ (fun w' hw' => range_all hw'.2) Tryz.underlying59 rfl (by kernel_rfl)) (by assumption) ?_
   simp only [Act.put, sT]
   refine wpAnyH_ready (rs := [7]) (by kernel_rfl) (by simp) ?_
   refine AllReadyH.cons rfl (fun K hK => ?_) AllReadyH.nil
   try simp only [List.getElem_toArray, List.getElem_cons_zero, List.getElem_cons_succ]
   go_simp
   go_at_call 26
   refine (lopen_any (HL.out.below (Below.refl _ _).drew) (by have := HLn.out; omega) ((party : Int)) 1 now so Ap np cp As ns cs (HO.out.below (Below.refl _ _).drew)).mono ?_
   rintro e wn ⟨rfl, an, h1, h2, h3⟩
   have hSn := And.intro ((HL.out.below (Below.refl _ _).drew).keep h3 HBx.out (by decide) (by decide) (by decide) (by decide)) ((HL.out.below (Below.refl _ _).drew).keep h3 HX.out (by decide) (by decide) (by decide) (by decide))
   have HLz := Lib.hid h1; have HSz := Lib.hid (HS.out.trans h2)
   have HCz := Lib.hid (HC.out.trans ((LChg.of_below (a := a) (bk := bk) (mb := mb) (Below.refl _ _).drew).trans (h3.same HS.out)))
   clear h1 h2 h3 hc1
   refine hK.out _ _ hSn (fun _ => ?_)
   clear hK K
   try simp only [Act.put, sT]
   clear hSn
   refine wpAnyH_done (by kernel_rfl) ?_ _
   go_wp2_with fail
   go_meet
   rw [← HZ.out]
   exact ⟨an, HLz.out, HSz.out, HCz.out⟩
  ·have hb : (si == 2) = false := by simpa using c
   have hY := HY.out
   rw [if_neg c] at hY
   have HZ := Lib.hid hY
   clear hY c
   go_wp2_with fail
   go_meet
   rw [← HZ.out]
   exact ⟨ax, HL.out, HS.out, HC.out⟩
 clear HY HO HX
 obtain ⟨ax, h1, h2, h3⟩ := hcut
 have HL := Lib.hid h1; have HS := Lib.hid h2; have HC := Lib.hid h3
 clear h1 h2 h3
 obtain ⟨w7, hwc⟩ : ∃ z : World, z = wc := ⟨_, rfl⟩
 subst hwc
 have hc0 := block_cell HL.out.box 0
 simp at hc0
 go_upto_region 11 with (go_at_call 42; refine (lback_any HL.out (party : Int) 0 now).mono ?_; rintro e u1 ⟨rfl, b1, h1, h2, h3⟩; have HLy := Lib.hid h1; have HSy := Lib.hid (HS.out.trans h2); have HCy := Lib.hid (HC.out.trans (h3.same HS.out)); clear h1 h2 h3 hc0; have hc0 := block_cell HLy.out.box 0; simp at hc0)
 go_wp2_with (go_at_call 42; refine (lback_any HLy.out ((party : Int) - 1) 1 now).mono ?_; rintro e u2 ⟨rfl, b2, h1, h2, h3⟩; have HLz := Lib.hid h1; have HSz := Lib.hid (HSy.out.trans h2); have HCz := Lib.hid (HCy.out.trans (h3.same HSy.out)); clear h1 h2 h3 hc0)
 go_end0
 rw [HW.out]
 exact ⟨rfl, b2, HLz.out, HSz.out, HCz.out⟩
end
end Go.Proofs.YthhiookcknnmdaaGreat
