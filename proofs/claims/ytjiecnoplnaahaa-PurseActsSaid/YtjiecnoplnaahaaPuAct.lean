/- The walk of PurseActs. Conditions: bounds. -/
import Derived.Test.YtjiecnoplnaahaaPuAD
import Derived.Test.YtjiecnoplnaahaaPuQ0
import Derived.Deep.RegionHeld3
import Derived.Deep.RegionLaw
import Derived.Deep.DeepCutAuto
namespace Go.Proofs.Ytjiecnoplnaahaa
open Go.RowKit Go.Lib



set_option maxRecDepth 100000 in
set_option maxHeartbeats 4000000 in
theorem purseActs_any (p : Pu) (A : Option Addr) (n c : Nat) (L : Option Addr) (m cl : Nat) (ds : List Dd) (w : World) (hr : Rd w w.heap.size 11 A n (flatH p.held)) (hcap : n ≤ c) (hd : Rd w w.heap.size 12 L m (flatD ds)) (hds : ∀ k, k < ds.length → (ds.getD k default).w < 256) :
    Calls Try.prog 4 #[.agg #[.int .u8 (p.nm.x0 : Int), .int .u8 (p.nm.x1 : Int), .int .u8 (p.nm.x2 : Int), .int .u8 (p.nm.x3 : Int), .int .u8 (p.nm.x4 : Int), .int .u8 (p.nm.x5 : Int), .int .u8 (p.nm.x6 : Int), .int .u8 (p.nm.x7 : Int), .int .i64 p.no, .int .i64 p.h0, .int .i64 p.h1, .slice A n c], .slice L m cl] w fun e w' => e = .returned (.bool true) ∧ Below w.heap.size w w' := by
  by_cases h40 : 40 < n
  · have b1 : decide (40 < n) = true := decide_eq_true h40
    clear hr hcap hd hds h40
    go_enter Try.func4, Try.ntmps4
    go_wp2_with (first | (go_at_call 11; refine (great_any p A n c _).mono ?_; rintro e w1 ⟨rfl, hb1⟩; have Hb1 := Lib.hid ((below_one w _).trans (hb1.mono (by simp))); clear hb1) | (go_at_call 12; refine (told_any _).mono ?_; rintro e w2 ⟨rfl, hb2⟩; have Hb2 := Lib.hid (Hb1.out.trans (hb2.mono Hb1.out.size)); clear hb2))
    go_ret
    exact ⟨rfl, Hb2.out⟩
  have b1 : decide (40 < n) = false := decide_eq_false h40
  have h : PuV.At p A n c w := ⟨hr, hcap, by omega⟩
  by_cases hm : 40 < m
  · have b2 : decide ((40 : Int) < (m : Int)) = true := decide_eq_true (by omega)
    clear h hr hcap hd hds h40 hm
    go_enter Try.func4, Try.ntmps4
    go_wp2_with (first | (go_at_call 11; refine (great_any p A n c _).mono ?_; rintro e w1 ⟨rfl, hb1⟩; have Hb1 := Lib.hid ((below_one w _).trans (hb1.mono (by simp))); clear hb1) | (go_at_call 12; refine (told_any _).mono ?_; rintro e w2 ⟨rfl, hb2⟩; have Hb2 := Lib.hid (Hb1.out.trans (hb2.mono Hb1.out.size)); clear hb2))
    go_ret
    exact ⟨rfl, Hb2.out⟩
  have b2 : decide ((40 : Int) < (m : Int)) = false := decide_eq_false (by omega)
  have HX := Lib.hid (heap_alloc_new w (.cells #[.int .u8 (p.nm.x0 : Int), .int .u8 (p.nm.x1 : Int), .int .u8 (p.nm.x2 : Int), .int .u8 (p.nm.x3 : Int), .int .u8 (p.nm.x4 : Int), .int .u8 (p.nm.x5 : Int), .int .u8 (p.nm.x6 : Int), .int .u8 (p.nm.x7 : Int), .int .i64 p.no, .int .i64 p.h0, .int .i64 p.h1, .slice A n c] 26))
  have HA := Lib.hid (h.up (below_one w (.cells #[.int .u8 (p.nm.x0 : Int), .int .u8 (p.nm.x1 : Int), .int .u8 (p.nm.x2 : Int), .int .u8 (p.nm.x3 : Int), .int .u8 (p.nm.x4 : Int), .int .u8 (p.nm.x5 : Int), .int .u8 (p.nm.x6 : Int), .int .u8 (p.nm.x7 : Int), .int .i64 p.no, .int .i64 p.h0, .int .i64 p.h1, .slice A n c] 26)))
  have Hl := Lib.hid h.rd.hlen
  have HD := Lib.hid hd
  have HD0 := Lib.hid hr
  have Hcap := Lib.hid hcap
  have Hdl := Lib.hid hd.dlen
  have Hds := Lib.hid hds
  clear h hd hds hr hcap
  go_enter Try.func4, Try.ntmps4
  go_wp2_with (go_at_call 11; refine (great_any p A n c _).mono ?_; rintro e w1 ⟨rfl, hb1⟩; have HX1 := Lib.hid (block_below HX.out hb1 (by simp));  have HA1 := Lib.hid (HA.out.up hb1); have Hb1 := Lib.hid ((below_one w _).trans (hb1.mono (by simp))); clear hb1; obtain ⟨z0, z1, z2, z3, z4, z5, z6, z7, z8, z9, z10, z11⟩ := PBox.all HX1.out)
  refine (own_any p A n c w1 HA1.out).mono ?_
  rintro e w2 ⟨A2, n2, c2, rfl, ho2, hb2⟩
  have HXp1 := Lib.hid (block_below HX1.out hb2 (block_lt HX1.out))
  have hpl : p.held.length ≤ 1000000 := by have := Hl.out; omega
  have HO2 := Lib.hid ((pown_down ho2 Hb1.out.size).alloc (.cells #[.int .u8 (p.nm.x0 : Int), .int .u8 (p.nm.x1 : Int), .int .u8 (p.nm.x2 : Int), .int .u8 (p.nm.x3 : Int), .int .u8 (p.nm.x4 : Int), .int .u8 (p.nm.x5 : Int), .int .u8 (p.nm.x6 : Int), .int .u8 (p.nm.x7 : Int), .int .i64 p.no, .int .i64 p.h0, .int .i64 p.h1, .slice A2 n2 c2] 32))
  have ha2 := at_own ho2 hpl
  clear z0 z1 z2 z3 z4 z5 z6 z7 z8 z9 z10 z11
  have HA2 := Lib.hid (ha2.up (below_one w2 (.cells #[.int .u8 (p.nm.x0 : Int), .int .u8 (p.nm.x1 : Int), .int .u8 (p.nm.x2 : Int), .int .u8 (p.nm.x3 : Int), .int .u8 (p.nm.x4 : Int), .int .u8 (p.nm.x5 : Int), .int .u8 (p.nm.x6 : Int), .int .u8 (p.nm.x7 : Int), .int .i64 p.no, .int .i64 p.h0, .int .i64 p.h1, .slice A2 n2 c2] 32)))
  have HX2 := Lib.hid (heap_alloc_new w2 (.cells #[.int .u8 (p.nm.x0 : Int), .int .u8 (p.nm.x1 : Int), .int .u8 (p.nm.x2 : Int), .int .u8 (p.nm.x3 : Int), .int .u8 (p.nm.x4 : Int), .int .u8 (p.nm.x5 : Int), .int .u8 (p.nm.x6 : Int), .int .u8 (p.nm.x7 : Int), .int .i64 p.no, .int .i64 p.h0, .int .i64 p.h1, .slice A2 n2 c2] 32))
  have Hb2 := Lib.hid ((Hb1.out.trans (hb2.mono Hb1.out.size)).alloc (Nat.le_trans Hb1.out.size hb2.size) (.cells #[.int .u8 (p.nm.x0 : Int), .int .u8 (p.nm.x1 : Int), .int .u8 (p.nm.x2 : Int), .int .u8 (p.nm.x3 : Int), .int .u8 (p.nm.x4 : Int), .int .u8 (p.nm.x5 : Int), .int .u8 (p.nm.x6 : Int), .int .u8 (p.nm.x7 : Int), .int .i64 p.no, .int .i64 p.h0, .int .i64 p.h1, .slice A2 n2 c2] 32))
  have Hg : Hid (w.heap.size ≤ w2.heap.size) := Nat.le_trans Hb1.out.size hb2.size
  have Hgs : Hid (w.heap.size < w2.heap.size) := block_lt HXp1.out
  clear ha2 hb2 ho2
  have HXp2 := Lib.hid (block_alloc HXp1.out (.cells #[.int .u8 (p.nm.x0 : Int), .int .u8 (p.nm.x1 : Int), .int .u8 (p.nm.x2 : Int), .int .u8 (p.nm.x3 : Int), .int .u8 (p.nm.x4 : Int), .int .u8 (p.nm.x5 : Int), .int .u8 (p.nm.x6 : Int), .int .u8 (p.nm.x7 : Int), .int .i64 p.no, .int .i64 p.h0, .int .i64 p.h1, .slice A2 n2 c2] 32))
  go_wp2
  generalize w2.heap.size = gx at *
  go_loopw [6] (fun i wr => ∃ (k : Nat) (q : Pu) (A' : Option Addr) (n' c' : Nat) (Ap : Option Addr) (np cp : Nat), k ≤ m ∧ i = .int .i64 (k : Int) ∧ wr.heap[gx]? = some (.cells #[.int .u8 (q.nm.x0 : Int), .int .u8 (q.nm.x1 : Int), .int .u8 (q.nm.x2 : Int), .int .u8 (q.nm.x3 : Int), .int .u8 (q.nm.x4 : Int), .int .u8 (q.nm.x5 : Int), .int .u8 (q.nm.x6 : Int), .int .u8 (q.nm.x7 : Int), .int .i64 q.no, .int .i64 q.h0, .int .i64 q.h1, .slice A' n' c'] 32 (0, 0)) ∧ wr.ownsRow w.heap.size 56 11 (.slice A' n' c') n' (flatH q.held) ∧ wr.heap[w.heap.size]? = some (.cells #[.int .u8 (q.nm.x0 : Int), .int .u8 (q.nm.x1 : Int), .int .u8 (q.nm.x2 : Int), .int .u8 (q.nm.x3 : Int), .int .u8 (q.nm.x4 : Int), .int .u8 (q.nm.x5 : Int), .int .u8 (q.nm.x6 : Int), .int .u8 (q.nm.x7 : Int), .int .i64 q.no, .int .i64 q.h0, .int .i64 q.h1, .slice Ap np cp] 26 (0, 0)) ∧ RowR w q Ap np cp wr ∧ q.held.length ≤ 1000000 ∧ Below w.heap.size w wr) (fun i _ => m - (intOf i).toNat)
  case atStart => exact ⟨0, p, A2, n2, c2, A, n, c, Nat.zero_le _, rfl, HX2.out, HO2.out, HXp2.out, .inl ⟨HD0.out.below Hb2.out (Nat.le_refl _), Hcap.out⟩, hpl, Hb2.out⟩
  case round =>
    obtain ⟨k, q, A', n', c', Ap, np, cp, hk, rfl, hx, ho, hxp, hrp, hql, hbel⟩ := hrel
    have ha := at_own ho hql
    have HXr := Lib.hid hx; have HOr := Lib.hid ho; have HAr := Lib.hid ha; have HXpr := Lib.hid hxp; have HRp := Lib.hid hrp; have Hbel := Lib.hid hbel
    have hgx := block_lt hx
    have hgp := block_lt hxp
    clear hx ho ha hxp hrp
    by_cases hlt : k < m
    · obtain ⟨b, o, rfl, hbB, hdc⟩ := (HD.out.up hbel (Nat.le_refl _)).dd hlt
      have hd1 : decide ((k : Int) < (m : Int)) = true := decide_eq_true (by omega)
      have hki : (k : Int) < (m : Int) := by omega
      have hdw := Hds.out k (by have := Hdl.out; omega)
      generalize ds.getD k default = d at *
      have HS := Lib.hid (And.intro (PBox.all HXr.out) hdc)
      have HSd := HS.out
      obtain ⟨⟨z0, z1, z2, z3, z4, z5, z6, z7, z8, z9, z10, z11⟩, y0, y1, y2, y3, y4, y5, y6, y7, y8, y9, y10, y11⟩ := HSd
      clear hdc hbel
      go_upto_region 7 with fail
      go_cut [7, 8] (fun s7 s8 wx => ∃ (g : Nat) (A4 : Option Addr) (n4 c4 : Nat), s7 = .pointer (some ⟨g, 0, none⟩) ∧ s8 = .int .i64 (q.deed d).1 ∧ wx.heap[g]? = some (.cells #[.int .u8 ((q.deed d).2.nm.x0 : Int), .int .u8 ((q.deed d).2.nm.x1 : Int), .int .u8 ((q.deed d).2.nm.x2 : Int), .int .u8 ((q.deed d).2.nm.x3 : Int), .int .u8 ((q.deed d).2.nm.x4 : Int), .int .u8 ((q.deed d).2.nm.x5 : Int), .int .u8 ((q.deed d).2.nm.x6 : Int), .int .u8 ((q.deed d).2.nm.x7 : Int), .int .i64 (q.deed d).2.no, .int .i64 (q.deed d).2.h0, .int .i64 (q.deed d).2.h1, .slice A4 n4 c4] 32 (0, 0)) ∧ wx.ownsRow wr.heap.size 56 11 (.slice A4 n4 c4) n4 (flatH (q.deed d).2.held) ∧ Below wr.heap.size wr wx ∧ wr.heap.size ≤ g)
      case first =>
        have HAa := Lib.hid HAr.out.drew
        have HAb := Lib.hid (HAr.out.up (below_one wr (.cells #[.int .u8 0, .int .u8 0, .int .u8 0, .int .u8 0, .int .u8 0, .int .u8 0, .int .u8 0, .int .u8 0, .int .i64 0, .int .i64 0, .int .i64 0, .slice none 0 0] 32))).drew
        go_region_held3 (fun w' => (w'.cell? ⟨gx, 0, none⟩ = some (.int .u8 (q.nm.x0 : Int)) ∧ w'.cell? ⟨gx, 1, none⟩ = some (.int .u8 (q.nm.x1 : Int)) ∧ w'.cell? ⟨gx, 2, none⟩ = some (.int .u8 (q.nm.x2 : Int)) ∧ w'.cell? ⟨gx, 3, none⟩ = some (.int .u8 (q.nm.x3 : Int)) ∧ w'.cell? ⟨gx, 4, none⟩ = some (.int .u8 (q.nm.x4 : Int)) ∧ w'.cell? ⟨gx, 5, none⟩ = some (.int .u8 (q.nm.x5 : Int)) ∧ w'.cell? ⟨gx, 6, none⟩ = some (.int .u8 (q.nm.x6 : Int)) ∧ w'.cell? ⟨gx, 7, none⟩ = some (.int .u8 (q.nm.x7 : Int)) ∧ w'.cell? ⟨gx, 8, none⟩ = some (.int .i64 q.no) ∧ w'.cell? ⟨gx, 9, none⟩ = some (.int .i64 q.h0) ∧ w'.cell? ⟨gx, 10, none⟩ = some (.int .i64 q.h1) ∧ w'.cell? ⟨gx, 11, none⟩ = some (.slice A' n' c')) ∧ (w'.cell? ⟨b, (o + k * 12), none⟩ = some (.int .u8 (d.w : Int)) ∧ w'.cell? ⟨b, (o + k * 12) + 1, none⟩ = some (.int .u8 (d.nm.x0 : Int)) ∧ w'.cell? ⟨b, (o + k * 12) + 2, none⟩ = some (.int .u8 (d.nm.x1 : Int)) ∧ w'.cell? ⟨b, (o + k * 12) + 3, none⟩ = some (.int .u8 (d.nm.x2 : Int)) ∧ w'.cell? ⟨b, (o + k * 12) + 4, none⟩ = some (.int .u8 (d.nm.x3 : Int)) ∧ w'.cell? ⟨b, (o + k * 12) + 5, none⟩ = some (.int .u8 (d.nm.x4 : Int)) ∧ w'.cell? ⟨b, (o + k * 12) + 6, none⟩ = some (.int .u8 (d.nm.x5 : Int)) ∧ w'.cell? ⟨b, (o + k * 12) + 7, none⟩ = some (.int .u8 (d.nm.x6 : Int)) ∧ w'.cell? ⟨b, (o + k * 12) + 8, none⟩ = some (.int .u8 (d.nm.x7 : Int)) ∧ w'.cell? ⟨b, (o + k * 12) + 9, none⟩ = some (.int .i64 d.am) ∧ w'.cell? ⟨b, (o + k * 12) + 10, none⟩ = some (.int .i64 d.fr) ∧ w'.cell? ⟨b, (o + k * 12) + 11, none⟩ = some (.int .i64 d.un)))
          (((with_reducible refine pd_below ?_ hgx hbB HS.out); (first
            | with_reducible exact (Below.refl wr.heap.size wr).drew
            | with_reducible exact ((Below.refl wr.heap.size wr).alloc (Nat.le_refl _) _).drew
            | with_reducible exact HB4.out
            | with_reducible exact HB4.out.alloc HB4.out.size _
            | with_reducible exact below_set12 HB4.out (Nat.le_refl wr.heap.size))))
          ((go_at_call 16; go_must (refine (do_any q A' n' c' d _ (by first | with_reducible exact HAa.out | with_reducible exact HAb.out) hdw).mono ?_; rintro e w4 ⟨A4, n4, c4, rfl, ho4, hb4⟩; have HB4 := Lib.hid (show Below wr.heap.size wr w4 from (by first | with_reducible exact below_a hb4 | with_reducible exact below_b hb4)); have HO4 := Lib.hid ho4; (first | (have HZ4 := Lib.hid (by with_reducible exact zero_after hb4); obtain ⟨v0, v1, v2, v3, v4, v5, v6, v7, v8, v9, v10, v11⟩ := PBox.all (p := pu0) HZ4.out; have vf := block_free HZ4.out; have vl := block_lt HZ4.out) | skip); clear hb4 ho4)))
        all_goals
          go_wp2_with fail
          try go_meet
          first
            | (obtain ⟨s1, s2⟩ := set12 HZ4.out rfl (q.deed d).2 A4 n4 c4
               exact ⟨wr.heap.size, A4, n4, c4, rfl, rfl, s1, pown_down (HO4.out.kept s2 (.inr fun e => own_ne HO4.out HZ4.out (by decide) e.symm)) (by simp), HB4.out.grown s2 HB4.out.size (fun k hk => by cases hk; exact Nat.le_refl _), Nat.le_refl _⟩)
            | exact ⟨w4.heap.size, A4, n4, c4, rfl, rfl, heap_alloc_new _ _, pown_down (HO4.out.alloc _) (by simp), HB4.out.alloc HB4.out.size _, HB4.out.size⟩
      case rest =>
        obtain ⟨g, A4, n4, c4, rfl, rfl, hY, ho4, hW4, hg⟩ := hcut
        have HXc := Lib.hid (block_below HXr.out hW4 hgx)
        have HOc := Lib.hid (own_below HOr.out hW4)
        have HXpc := Lib.hid (block_below HXpr.out hW4 hgp)
        have HRpc := Lib.hid (HRp.out.below hW4 Hbel.out.size)
        have Hbc := Lib.hid (Hbel.out.trans (hW4.mono Hbel.out.size))
        have HYc := Lib.hid hY
        have HO4 := Lib.hid (pown_down ho4 Hbel.out.size)
        have HAp := Lib.hid (HRpc.out.at_ hql Hbc.out.size)
        have HSp := Lib.hid (And.intro (PBox.all HXpc.out) (pd_below hW4 hgx hbB HS.out).2)
        have hgp2 : w.heap.size < wc.heap.size := block_lt HXpc.out
        have hbB2 : b < wc.heap.size := Nat.lt_of_lt_of_le hbB hW4.size
        have hgl := block_lt hY
        have hgxc := block_lt HXc.out
        clear hY ho4 hW4 z0 z1 z2 z3 z4 z5 z6 z7 z8 z9 z10 z11 y0 y1 y2 y3 y4 y5 y6 y7 y8 y9 y10 y11 hgp hbB HS
        have hgp := hgp2
        have hbB := hbB2
        clear hgp2 hbB2
        have HSd := HSp.out
        obtain ⟨⟨z0, z1, z2, z3, z4, z5, z6, z7, z8, z9, z10, z11⟩, y0, y1, y2, y3, y4, y5, y6, y7, y8, y9, y10, y11⟩ := HSd
        go_upto_region 8 with fail
        obtain ⟨wb, rfl⟩ : ∃ wb : World, wb = wc := ⟨_, rfl⟩
        go_cut [9, 10] (fun s9 s10 wx => ∃ (gq : Nat) (A9 : Option Addr) (n9 c9 : Nat), s9 = .pointer (some ⟨gq, 0, none⟩) ∧ s10 = .int .i64 (q.deed d).1 ∧ wx.heap[gq]? = some (.cells #[.int .u8 ((q.deed d).2.nm.x0 : Int), .int .u8 ((q.deed d).2.nm.x1 : Int), .int .u8 ((q.deed d).2.nm.x2 : Int), .int .u8 ((q.deed d).2.nm.x3 : Int), .int .u8 ((q.deed d).2.nm.x4 : Int), .int .u8 ((q.deed d).2.nm.x5 : Int), .int .u8 ((q.deed d).2.nm.x6 : Int), .int .u8 ((q.deed d).2.nm.x7 : Int), .int .i64 (q.deed d).2.no, .int .i64 (q.deed d).2.h0, .int .i64 (q.deed d).2.h1, .slice A9 n9 c9] 26 (0, 0)) ∧ wx.ownsRow wb.heap.size 60 11 (.slice A9 n9 c9) n9 (flatH (q.deed d).2.held) ∧ Below wb.heap.size wb wx ∧ wb.heap.size ≤ gq)
        case first =>
          have HAa := Lib.hid HAp.out.drew
          have HAb := Lib.hid (HAp.out.up (below_one wb (.cells #[.int .u8 0, .int .u8 0, .int .u8 0, .int .u8 0, .int .u8 0, .int .u8 0, .int .u8 0, .int .u8 0, .int .i64 0, .int .i64 0, .int .i64 0, .slice none 0 0] 26))).drew
          go_region_held3 (fun w' => (w'.cell? ⟨w.heap.size, 0, none⟩ = some (.int .u8 (q.nm.x0 : Int)) ∧ w'.cell? ⟨w.heap.size, 1, none⟩ = some (.int .u8 (q.nm.x1 : Int)) ∧ w'.cell? ⟨w.heap.size, 2, none⟩ = some (.int .u8 (q.nm.x2 : Int)) ∧ w'.cell? ⟨w.heap.size, 3, none⟩ = some (.int .u8 (q.nm.x3 : Int)) ∧ w'.cell? ⟨w.heap.size, 4, none⟩ = some (.int .u8 (q.nm.x4 : Int)) ∧ w'.cell? ⟨w.heap.size, 5, none⟩ = some (.int .u8 (q.nm.x5 : Int)) ∧ w'.cell? ⟨w.heap.size, 6, none⟩ = some (.int .u8 (q.nm.x6 : Int)) ∧ w'.cell? ⟨w.heap.size, 7, none⟩ = some (.int .u8 (q.nm.x7 : Int)) ∧ w'.cell? ⟨w.heap.size, 8, none⟩ = some (.int .i64 q.no) ∧ w'.cell? ⟨w.heap.size, 9, none⟩ = some (.int .i64 q.h0) ∧ w'.cell? ⟨w.heap.size, 10, none⟩ = some (.int .i64 q.h1) ∧ w'.cell? ⟨w.heap.size, 11, none⟩ = some (.slice Ap np cp)) ∧ (w'.cell? ⟨b, (o + k * 12), none⟩ = some (.int .u8 (d.w : Int)) ∧ w'.cell? ⟨b, (o + k * 12) + 1, none⟩ = some (.int .u8 (d.nm.x0 : Int)) ∧ w'.cell? ⟨b, (o + k * 12) + 2, none⟩ = some (.int .u8 (d.nm.x1 : Int)) ∧ w'.cell? ⟨b, (o + k * 12) + 3, none⟩ = some (.int .u8 (d.nm.x2 : Int)) ∧ w'.cell? ⟨b, (o + k * 12) + 4, none⟩ = some (.int .u8 (d.nm.x3 : Int)) ∧ w'.cell? ⟨b, (o + k * 12) + 5, none⟩ = some (.int .u8 (d.nm.x4 : Int)) ∧ w'.cell? ⟨b, (o + k * 12) + 6, none⟩ = some (.int .u8 (d.nm.x5 : Int)) ∧ w'.cell? ⟨b, (o + k * 12) + 7, none⟩ = some (.int .u8 (d.nm.x6 : Int)) ∧ w'.cell? ⟨b, (o + k * 12) + 8, none⟩ = some (.int .u8 (d.nm.x7 : Int)) ∧ w'.cell? ⟨b, (o + k * 12) + 9, none⟩ = some (.int .i64 d.am) ∧ w'.cell? ⟨b, (o + k * 12) + 10, none⟩ = some (.int .i64 d.fr) ∧ w'.cell? ⟨b, (o + k * 12) + 11, none⟩ = some (.int .i64 d.un)))
            (((with_reducible refine pd_below ?_ hgp hbB HSp.out); (first
              | with_reducible exact (Below.refl wb.heap.size wb).drew
              | with_reducible exact ((Below.refl wb.heap.size wb).alloc (Nat.le_refl _) _).drew
              | with_reducible exact HB9.out
              | with_reducible exact HB9.out.alloc HB9.out.size _
              | with_reducible exact below_set12 HB9.out (Nat.le_refl wb.heap.size))))
            ((go_at_call 17; go_must (refine (want_any q Ap np cp d _ (by first | with_reducible exact HAa.out | with_reducible exact HAb.out) hdw).mono ?_; rintro e w9 ⟨A9, n9, c9, rfl, ho9, hb9⟩; have HB9 := Lib.hid (show Below wb.heap.size wb w9 from (by first | with_reducible exact below_a hb9 | with_reducible exact below_b hb9)); have HO9 := Lib.hid ho9; (first | (have HZ9 := Lib.hid (by with_reducible exact zero_afterR hb9); obtain ⟨v0, v1, v2, v3, v4, v5, v6, v7, v8, v9, v10, v11⟩ := PBox.all (p := pu0) HZ9.out; have vf := block_free HZ9.out; have vl := block_lt HZ9.out) | skip); clear hb9 ho9)))
          all_goals
            go_wp2_with fail
            try go_meet
            first
              | (obtain ⟨s1, s2⟩ := set12 HZ9.out rfl (q.deed d).2 A9 n9 c9
                 exact ⟨wb.heap.size, A9, n9, c9, rfl, rfl, s1, pown_down (HO9.out.kept s2 (.inr fun e => own_ne HO9.out HZ9.out (by decide) e.symm)) (by simp), HB9.out.grown s2 HB9.out.size (fun k hk => by cases hk; exact Nat.le_refl _), Nat.le_refl _⟩)
              | exact ⟨w9.heap.size, A9, n9, c9, rfl, rfl, heap_alloc_new _ _, pown_down (HO9.out.alloc _) (by simp), HB9.out.alloc HB9.out.size _, HB9.out.size⟩
        case rest =>
          obtain ⟨gq, A9, n9, c9, rfl, rfl, hQ, ho9, hW9, hgq⟩ := hcut
          have Hlen := Lib.hid (deed_len (p := q) (d := d))
          generalize q.deed d = rr at *
          obtain ⟨code, r⟩ := rr
          simp only at *
          have HXf := Lib.hid (block_below HXc.out hW9 hgxc)
          have HOf := Lib.hid (own_below HOc.out hW9)
          have HXpf := Lib.hid (block_below HXpc.out hW9 hgp)
          have HRpf := Lib.hid (HRpc.out.below hW9 Hbc.out.size)
          have Hbf := Lib.hid (Hbc.out.trans (hW9.mono Hbc.out.size))
          have HYf := Lib.hid (block_below HYc.out hW9 hgl)
          have HO4f := Lib.hid (own_below HO4.out hW9)
          have HQf := Lib.hid hQ
          have HO9 := Lib.hid (pown_down ho9 Hbc.out.size)
          have HA4 := Lib.hid (at_own HO4f.out Hlen.out)
          have HA9 := Lib.hid (at_ownR HO9.out Hlen.out)
          have hngx : gx ≠ g := by omega
          have hngx2 : g ≠ gx := by omega
          have hngq : gx ≠ gq := by omega
          have hngq2 : gq ≠ gx := by omega
          have hnpg : w.heap.size ≠ g := by have := block_lt HXpr.out; omega
          have hnpg2 : g ≠ w.heap.size := by omega
          have hnpq : w.heap.size ≠ gq := by omega
          have hnpq2 : gq ≠ w.heap.size := by omega
          have hgyl := block_lt HYf.out
          have hgql := block_lt HQf.out
          have hgxf := block_lt HXf.out
          have hgpf := block_lt HXpf.out
          clear hQ ho9 hW9 z0 z1 z2 z3 z4 z5 z6 z7 z8 z9 z10 z11 y0 y1 y2 y3 y4 y5 y6 y7 y8 y9 y10 y11 hgp hbB HSp HAp
          have hsame := same_refl r
          have HSy := Lib.hid (And.intro (PBox.all HYf.out) (PBox.all HQf.out))
          have HSd := HSy.out
          obtain ⟨⟨z0, z1, z2, z3, z4, z5, z6, z7, z8, z9, z10, z11⟩, y0, y1, y2, y3, y4, y5, y6, y7, y8, y9, y10, y11⟩ := HSd
          obtain ⟨wd, rfl⟩ : ∃ wd : World, wd = wc := ⟨_, rfl⟩
          by_cases hcode : code = 0
          · have b4 : (code == 0) = true := by simpa using hcode
            have b5 : (code != code) = false := by simp
            clear hcode
            go_wp2
            go_region_held3 (fun w' => (w'.cell? ⟨g, 0, none⟩ = some (.int .u8 (r.nm.x0 : Int)) ∧ w'.cell? ⟨g, 1, none⟩ = some (.int .u8 (r.nm.x1 : Int)) ∧ w'.cell? ⟨g, 2, none⟩ = some (.int .u8 (r.nm.x2 : Int)) ∧ w'.cell? ⟨g, 3, none⟩ = some (.int .u8 (r.nm.x3 : Int)) ∧ w'.cell? ⟨g, 4, none⟩ = some (.int .u8 (r.nm.x4 : Int)) ∧ w'.cell? ⟨g, 5, none⟩ = some (.int .u8 (r.nm.x5 : Int)) ∧ w'.cell? ⟨g, 6, none⟩ = some (.int .u8 (r.nm.x6 : Int)) ∧ w'.cell? ⟨g, 7, none⟩ = some (.int .u8 (r.nm.x7 : Int)) ∧ w'.cell? ⟨g, 8, none⟩ = some (.int .i64 r.no) ∧ w'.cell? ⟨g, 9, none⟩ = some (.int .i64 r.h0) ∧ w'.cell? ⟨g, 10, none⟩ = some (.int .i64 r.h1) ∧ w'.cell? ⟨g, 11, none⟩ = some (.slice A4 n4 c4)) ∧ (w'.cell? ⟨gq, 0, none⟩ = some (.int .u8 (r.nm.x0 : Int)) ∧ w'.cell? ⟨gq, 1, none⟩ = some (.int .u8 (r.nm.x1 : Int)) ∧ w'.cell? ⟨gq, 2, none⟩ = some (.int .u8 (r.nm.x2 : Int)) ∧ w'.cell? ⟨gq, 3, none⟩ = some (.int .u8 (r.nm.x3 : Int)) ∧ w'.cell? ⟨gq, 4, none⟩ = some (.int .u8 (r.nm.x4 : Int)) ∧ w'.cell? ⟨gq, 5, none⟩ = some (.int .u8 (r.nm.x5 : Int)) ∧ w'.cell? ⟨gq, 6, none⟩ = some (.int .u8 (r.nm.x6 : Int)) ∧ w'.cell? ⟨gq, 7, none⟩ = some (.int .u8 (r.nm.x7 : Int)) ∧ w'.cell? ⟨gq, 8, none⟩ = some (.int .i64 r.no) ∧ w'.cell? ⟨gq, 9, none⟩ = some (.int .i64 r.h0) ∧ w'.cell? ⟨gq, 10, none⟩ = some (.int .i64 r.h1) ∧ w'.cell? ⟨gq, 11, none⟩ = some (.slice A9 n9 c9)))
              (first | with_reducible exact HS6.out | with_reducible exact HS5.out | exact HSy.out)
              (first
               | (have _g := HS5; clear _g; go_at_call 18; go_must (refine (samer_any r r A5 A9 n5 c5 n9 c9 _ HA5.out HA9b.out).mono ?_; rintro e w6 ⟨rfl, hb6⟩; have HS6 := Lib.hid (pp_below hb6 (Nat.lt_of_lt_of_le hgyl hs5.out) (Nat.lt_of_lt_of_le hgql hs5.out) HS5.out); have HX6 := Lib.hid (block_below HX5.out hb6 (block_lt HX5.out)); have HY6 := Lib.hid (block_below HY5.out hb6 (block_lt HY5.out)); have HQ6 := Lib.hid (block_below HQ5.out hb6 (block_lt HQ5.out)); have HXp6 := Lib.hid (block_below HXp5.out hb6 (block_lt HXp5.out)); have HRp6 := Lib.hid (HRp5.out.below hb6 Hb5.out.size); have HO6 := Lib.hid (own_below HO5.out hb6); have HO46 := Lib.hid (own_below HO45.out hb6); have HO96 := Lib.hid (own_below HO95.out hb6); have Hb6 := Lib.hid (Hb5.out.trans (hb6.mono Hb5.out.size)); clear hb6))
               | (go_at_call 19; go_must (refine (backp_any r A4 n4 c4 _ HA4.out.drew).mono ?_; rintro e w5 ⟨A5, n5, c5, rfl, ho5, hb5d⟩; have hb5 : Below wd.heap.size wd w5 := below_a hb5d; have hs5 : Hid (wd.heap.size ≤ w5.heap.size) := Lib.hid hb5.size; have HS5 := Lib.hid (pp_below (w := wd) hb5 hgyl hgql HSy.out); have HA5 := Lib.hid (at_ownR ho5 Hlen.out); have HA9b := Lib.hid (HA9.out.up hb5); have HX5 := Lib.hid (block_below HXf.out hb5 hgxf); have HY5 := Lib.hid (block_below HYf.out hb5 hgyl); have HQ5 := Lib.hid (block_below HQf.out hb5 hgql); have HXp5 := Lib.hid (block_below HXpf.out hb5 hgpf); have HRp5 := Lib.hid (HRpf.out.below (w' := w5) hb5 Hbf.out.size); have HO5 := Lib.hid (own_below (w := wd) HOf.out hb5); have HO45 := Lib.hid (own_below (w := wd) HO4f.out hb5); have HO95 := Lib.hid (own_below (w := wd) HO9.out hb5); have Hb5 := Lib.hid (Hbf.out.trans (c := w5) (hb5.mono Hbf.out.size)); clear hb5 hb5d ho5)))
            go_wp2
            have hnxp : gx ≠ w.heap.size := by have := Hgs.out; omega
            have xf := block_free HX6.out
            have pf := block_free HXp6.out
            have ux := PBox.all HX6.out
            have up := PBox.all HXp6.out
            obtain ⟨ux0, ux1, ux2, ux3, ux4, ux5, ux6, ux7, ux8, ux9, ux10, ux11⟩ := ux
            obtain ⟨up0, up1, up2, up3, up4, up5, up6, up7, up8, up9, up10, up11⟩ := up
            go_region_held3 (fun w' => (w'.cell? ⟨g, 0, none⟩ = some (.int .u8 (r.nm.x0 : Int)) ∧ w'.cell? ⟨g, 1, none⟩ = some (.int .u8 (r.nm.x1 : Int)) ∧ w'.cell? ⟨g, 2, none⟩ = some (.int .u8 (r.nm.x2 : Int)) ∧ w'.cell? ⟨g, 3, none⟩ = some (.int .u8 (r.nm.x3 : Int)) ∧ w'.cell? ⟨g, 4, none⟩ = some (.int .u8 (r.nm.x4 : Int)) ∧ w'.cell? ⟨g, 5, none⟩ = some (.int .u8 (r.nm.x5 : Int)) ∧ w'.cell? ⟨g, 6, none⟩ = some (.int .u8 (r.nm.x6 : Int)) ∧ w'.cell? ⟨g, 7, none⟩ = some (.int .u8 (r.nm.x7 : Int)) ∧ w'.cell? ⟨g, 8, none⟩ = some (.int .i64 r.no) ∧ w'.cell? ⟨g, 9, none⟩ = some (.int .i64 r.h0) ∧ w'.cell? ⟨g, 10, none⟩ = some (.int .i64 r.h1) ∧ w'.cell? ⟨g, 11, none⟩ = some (.slice A4 n4 c4)) ∧ (w'.cell? ⟨gq, 0, none⟩ = some (.int .u8 (r.nm.x0 : Int)) ∧ w'.cell? ⟨gq, 1, none⟩ = some (.int .u8 (r.nm.x1 : Int)) ∧ w'.cell? ⟨gq, 2, none⟩ = some (.int .u8 (r.nm.x2 : Int)) ∧ w'.cell? ⟨gq, 3, none⟩ = some (.int .u8 (r.nm.x3 : Int)) ∧ w'.cell? ⟨gq, 4, none⟩ = some (.int .u8 (r.nm.x4 : Int)) ∧ w'.cell? ⟨gq, 5, none⟩ = some (.int .u8 (r.nm.x5 : Int)) ∧ w'.cell? ⟨gq, 6, none⟩ = some (.int .u8 (r.nm.x6 : Int)) ∧ w'.cell? ⟨gq, 7, none⟩ = some (.int .u8 (r.nm.x7 : Int)) ∧ w'.cell? ⟨gq, 8, none⟩ = some (.int .i64 r.no) ∧ w'.cell? ⟨gq, 9, none⟩ = some (.int .i64 r.h0) ∧ w'.cell? ⟨gq, 10, none⟩ = some (.int .i64 r.h1) ∧ w'.cell? ⟨gq, 11, none⟩ = some (.slice A9 n9 c9)))
              (first | with_reducible exact pp_drew HS6.out | with_reducible exact pp_drew (pp_s12 HS6.out hngx hngq) | with_reducible exact pp_drew (pp_s12 HS6.out hnpg hnpq) | with_reducible exact pp_drew (pp_s12 (pp_s12 HS6.out hngx hngq) hnpg hnpq) | with_reducible exact pp_drew (pp_s12 (pp_s12 HS6.out hnpg hnpq) hngx hngq))
              (fail)
            all_goals
              go_wp2_with fail
              go_roundw
              case rel =>
                first
                  | (obtain ⟨e1, e2, e3, e4, e5⟩ := (acts_end1 HX6.out HXp6.out hnxp HO46.out HO96.out Hb6.out Hg.out (Nat.le_refl _)).drew
                     exact ⟨k + 1, r, A4, n4, c4, A9, n9, c9, by omega, by go_num, e1, e2, e3, .inr e4, Hlen.out, e5⟩)
                  | (obtain ⟨e1, e2, e3, e4, e5⟩ := (acts_end2 HX6.out HXp6.out hnxp HO46.out HO96.out Hb6.out Hg.out (Nat.le_refl _)).drew
                     exact ⟨k + 1, r, A4, n4, c4, A9, n9, c9, by omega, by go_num, e1, e2, e3, .inr e4, Hlen.out, e5⟩)
              case measure => simp [intOf]; omega
          · have b4 : (code == 0) = false := by simpa using hcode
            have b5 : (code != code) = false := by simp
            clear hcode
            go_wp2
            go_region_held3 (fun w' => (w'.cell? ⟨g, 0, none⟩ = some (.int .u8 (r.nm.x0 : Int)) ∧ w'.cell? ⟨g, 1, none⟩ = some (.int .u8 (r.nm.x1 : Int)) ∧ w'.cell? ⟨g, 2, none⟩ = some (.int .u8 (r.nm.x2 : Int)) ∧ w'.cell? ⟨g, 3, none⟩ = some (.int .u8 (r.nm.x3 : Int)) ∧ w'.cell? ⟨g, 4, none⟩ = some (.int .u8 (r.nm.x4 : Int)) ∧ w'.cell? ⟨g, 5, none⟩ = some (.int .u8 (r.nm.x5 : Int)) ∧ w'.cell? ⟨g, 6, none⟩ = some (.int .u8 (r.nm.x6 : Int)) ∧ w'.cell? ⟨g, 7, none⟩ = some (.int .u8 (r.nm.x7 : Int)) ∧ w'.cell? ⟨g, 8, none⟩ = some (.int .i64 r.no) ∧ w'.cell? ⟨g, 9, none⟩ = some (.int .i64 r.h0) ∧ w'.cell? ⟨g, 10, none⟩ = some (.int .i64 r.h1) ∧ w'.cell? ⟨g, 11, none⟩ = some (.slice A4 n4 c4)) ∧ (w'.cell? ⟨gq, 0, none⟩ = some (.int .u8 (r.nm.x0 : Int)) ∧ w'.cell? ⟨gq, 1, none⟩ = some (.int .u8 (r.nm.x1 : Int)) ∧ w'.cell? ⟨gq, 2, none⟩ = some (.int .u8 (r.nm.x2 : Int)) ∧ w'.cell? ⟨gq, 3, none⟩ = some (.int .u8 (r.nm.x3 : Int)) ∧ w'.cell? ⟨gq, 4, none⟩ = some (.int .u8 (r.nm.x4 : Int)) ∧ w'.cell? ⟨gq, 5, none⟩ = some (.int .u8 (r.nm.x5 : Int)) ∧ w'.cell? ⟨gq, 6, none⟩ = some (.int .u8 (r.nm.x6 : Int)) ∧ w'.cell? ⟨gq, 7, none⟩ = some (.int .u8 (r.nm.x7 : Int)) ∧ w'.cell? ⟨gq, 8, none⟩ = some (.int .i64 r.no) ∧ w'.cell? ⟨gq, 9, none⟩ = some (.int .i64 r.h0) ∧ w'.cell? ⟨gq, 10, none⟩ = some (.int .i64 r.h1) ∧ w'.cell? ⟨gq, 11, none⟩ = some (.slice A9 n9 c9)))
              (first | with_reducible exact HS6.out | with_reducible exact HS5.out | exact HSy.out)
              (first
               | (have _g := HS5; clear _g; go_at_call 18; go_must (refine (samer_any r r A5 A9 n5 c5 n9 c9 _ HA5.out HA9b.out).mono ?_; rintro e w6 ⟨rfl, hb6⟩; have HS6 := Lib.hid (pp_below hb6 (Nat.lt_of_lt_of_le hgyl hs5.out) (Nat.lt_of_lt_of_le hgql hs5.out) HS5.out); have HX6 := Lib.hid (block_below HX5.out hb6 (block_lt HX5.out)); have HY6 := Lib.hid (block_below HY5.out hb6 (block_lt HY5.out)); have HQ6 := Lib.hid (block_below HQ5.out hb6 (block_lt HQ5.out)); have HXp6 := Lib.hid (block_below HXp5.out hb6 (block_lt HXp5.out)); have HRp6 := Lib.hid (HRp5.out.below hb6 Hb5.out.size); have HO6 := Lib.hid (own_below HO5.out hb6); have HO46 := Lib.hid (own_below HO45.out hb6); have HO96 := Lib.hid (own_below HO95.out hb6); have Hb6 := Lib.hid (Hb5.out.trans (hb6.mono Hb5.out.size)); clear hb6))
               | (go_at_call 19; go_must (refine (backp_any r A4 n4 c4 _ HA4.out.drew).mono ?_; rintro e w5 ⟨A5, n5, c5, rfl, ho5, hb5d⟩; have hb5 : Below wd.heap.size wd w5 := below_a hb5d; have hs5 : Hid (wd.heap.size ≤ w5.heap.size) := Lib.hid hb5.size; have HS5 := Lib.hid (pp_below (w := wd) hb5 hgyl hgql HSy.out); have HA5 := Lib.hid (at_ownR ho5 Hlen.out); have HA9b := Lib.hid (HA9.out.up hb5); have HX5 := Lib.hid (block_below HXf.out hb5 hgxf); have HY5 := Lib.hid (block_below HYf.out hb5 hgyl); have HQ5 := Lib.hid (block_below HQf.out hb5 hgql); have HXp5 := Lib.hid (block_below HXpf.out hb5 hgpf); have HRp5 := Lib.hid (HRpf.out.below (w' := w5) hb5 Hbf.out.size); have HO5 := Lib.hid (own_below (w := wd) HOf.out hb5); have HO45 := Lib.hid (own_below (w := wd) HO4f.out hb5); have HO95 := Lib.hid (own_below (w := wd) HO9.out hb5); have Hb5 := Lib.hid (Hbf.out.trans (c := w5) (hb5.mono Hbf.out.size)); clear hb5 hb5d ho5)))
            all_goals
              go_wp2
              go_roundw
              case rel => exact ⟨k + 1, q, A', n', c', Ap, np, cp, by omega, by go_num, HX6.out, HO6.out, HXp6.out, HRp6.out, hql, Hb6.out⟩
              case measure => simp [intOf]; omega
    · have hkn : k = m := by omega
      subst hkn
      have hd1 : decide ((k : Int) < (k : Int)) = false := decide_eq_false (by omega)
      clear hlt hbel
      go_wp2_with (go_at_call 12; refine (told_any _).mono ?_; rintro e w5 ⟨rfl, hb5⟩; have Hb5 := Lib.hid (Hbel.out.trans (hb5.mono Hbel.out.size)); clear hb5)
      go_ret
      exact ⟨rfl, Hb5.out⟩
end Go.Proofs.Ytjiecnoplnaahaa
