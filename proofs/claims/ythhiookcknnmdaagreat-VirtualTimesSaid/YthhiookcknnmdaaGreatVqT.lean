/- The walk of VirtualTimes. Nothing is asked of the world but the arguments' bounds. -/
import Derived.Test.YthhiookcknnmdaaGreatJoinVak
import Derived.Test.YthhiookcknnmdaaGreatJoinVal
namespace Go.Proofs.YthhiookcknnmdaaGreat
open Go.RowKit Go.Lib



theorem ret_tm {p : Pl} {m a b last d : Nat} (h1 : 1 ≤ m) (h7 : m ≤ 7) (ha : a < 65536) (hb : b < 65536) (hl : last ≤ 4294967296) (hd1 : 1 ≤ d) (hd : d ≤ 65536) (Ak : Option Addr) (ck : Nat) (w : World) (h : Rd w w.heap.size 8 Ak (m + 1) (flatD (bgKs m))) (hp : tmPl m a b last d = p) :
  Calls Tryz.prog 12 #[.agg #[.int .u8 tabD.x0, .int .u8 tabD.x1, .int .u8 tabD.x2, .int .u8 tabD.x3, .int .u8 tabD.x4, .int .u8 tabD.x5, .int .u8 tabD.x6, .int .u8 tabD.x7], .slice Ak (m + 1) ck, .agg #[.int .i64 (1 + (a : Int)), .int .i64 (1 + (b : Int))], .int .i64 last, .int .i64 d] w (GivesPl p 0 w) := by
 have := newplan_any tabD (bgKs m) (1 + (a : Int)) (1 + (b : Int)) last d Ak (m + 1) ck w h (by omega)
 rw [tm_new h1 h7 ha hb hl hd1 hd, hp] at this
 exact this
section
set_option maxRecDepth 100000 in
set_option maxHeartbeats 40000000 in
theorem vtimes_any (parties a b last win : Nat) (w : World) (hp : parties < 256) (ha : a < 65536) (hb : b < 65536) (hl : last < 4294967296) (hw : win < 65536) :
  Calls Tryz.prog 3 #[.int .u8 parties, .agg #[.int .u16 a, .int .u16 b], .int .u32 last, .int .u16 win] w fun e w' => e = .returned (.bool true) ∧ Below w.heap.size w w' := by
 obtain ⟨m, hm⟩ : ∃ m, m = 1 + parties % 7 := ⟨_, rfl⟩
 obtain ⟨d, hd⟩ : ∃ d, d = 1 + win := ⟨_, rfl⟩
 have hm1 : 1 ≤ m := by omega
 have hm7 : m ≤ 7 := by omega
 have hd1 : 1 ≤ d := by omega
 have hd2 : d ≤ 65536 := by omega
 have HN : Hid ((2 : Int) + (parties : Int) % 7 = (m : Int) + 1) := Lib.hid (by omega)
 have HD : Hid ((1 : Int) + (win : Int) = (d : Int)) := Lib.hid (by omega)
 have hp0 : (0 : Int) ≤ (parties : Int) % 7 := by omega
 have hp1 : (parties : Int) % 7 < 7 := by omega
 clear hm hd
 have HX1 : Hid ((w.alloc (.cells #[.int .u16 a, .int .u16 b] 23)).heap[w.heap.size]? = some (.cells #[.int .u16 a, .int .u16 b] 23 (0, 0))) := heap_alloc_new _ _
 have Hb1 := Lib.hid (below_one w (.cells #[.int .u16 a, .int .u16 b] 23))
 go_enter Tryz.func3, Tryz.ntmps3
 go_upto_region 4 with fail
 generalize w.alloc (.cells #[.int .u16 a, .int .u16 b] 23) = w1 at *
 rw [HN.out]
 clear HN hp0 hp1
 obtain ⟨i0, hi, hz0, hz1, hz2⟩ := info_parts info_dig
 have HI := Lib.hid (And.intro hi (And.intro hz0 (And.intro hz1 hz2))); clear hi hz0 hz1 hz2
 go_loopw [10, 29] (fun v i wr => ∃ (k : Nat) (A' : Option Addr) (c' : Nat), k ≤ m + 1 ∧ v = .slice A' k c' ∧ i = .int .i64 k ∧ Hid (wr.ownsRow w1.heap.size 27 8 (.slice A' k c') k (flatD ((List.range k).map keyD))) ∧ Hid (Below w1.heap.size w1 wr)) (fun _ i _ => m + 1 - (RowKit.intOf i).toNat)
 case atStart => exact ⟨0, none, 0, by omega, rfl, rfl, Lib.hid (World.ownsRow_nil _ _ _ _), Lib.hid (Below.refl _ _)⟩
 case round =>
  obtain ⟨k, A', c', hk, rfl, rfl, HO, HB⟩ := hrel
  by_cases hlt : k < m + 1
  ·have hd1 : decide ((k : Int) < (m : Int) + 1) = true := decide_eq_true (by omega)
   have hki : (k : Int) < (m : Int) + 1 := by omega
   have Hrs : Hid (flatD ((List.range (k + 1)).map keyD) = flatD ((List.range k).map keyD) ++ [.int .u8 (keyD k).x0, .int .u8 (keyD k).x1, .int .u8 (keyD k).x2, .int .u8 (keyD k).x3, .int .u8 (keyD k).x4, .int .u8 (keyD k).x5, .int .u8 (keyD k).x6, .int .u8 (keyD k).x7]) := Lib.hid (by rw [List.range_succ, List.map_append, flatD_append]; simp [flatD, D8.cells])
   have hkk : k ≤ 200 := by omega
   have hkey := key_any k hkk wr
   generalize keyD k = kd at *
   have HKey := Lib.hid hkey
   clear hkey
   --<
   go_upto_region 7 with (first | (go_at_call 11; refine HKey.out.mono ?_; rintro e w2 ⟨rfl, hb2⟩; have HB2 := Lib.hid (HB.out.trans (hb2.mono HB.out.size)); have HO2 := Lib.hid (own_below HO.out hb2); clear hb2; have hs2 := HB2.out.size) | (at_builtin; go_must (refine append_at w2 (by rfl) _ _ 25 (by rfl) w1.heap.size 27 i0 (.agg #[.int .u8 0, .int .u8 0, .int .u8 0, .int .u8 0, .int .u8 0, .int .u8 0, .int .u8 0, .int .u8 0]) 8 8 Tryz.underlying25 HI.out rfl (by decide) _ _ _ (by rfl) HO2.out 1 1 #[.int .u8 kd.x0, .int .u8 kd.x1, .int .u8 kd.x2, .int .u8 kd.x3, .int .u8 kd.x4, .int .u8 kd.x5, .int .u8 kd.x6, .int .u8 kd.x7] 27 (by simp [Act.eval]) rfl (by simp [Value.oneCell']) (by omega) (by omega) hs2 ?_; intro v7 w7 own7 bel7 gr7 at7; obtain ⟨A7, c7, rfl⟩ := own_form own7; have O7 := Lib.hid own7; have HB7 : Hid (Below w1.heap.size w1 w7) := Lib.hid (HB2.out.trans bel7); clear own7 bel7 gr7 at7)))
   go_wp2
   go_roundw
   case rel => exact ⟨k + 1, A7, c7, hlt, rfl, by go_num, by rw [Hrs.out]; exact O7, HB7⟩
   case measure => simp [RowKit.intOf]; omega
   -->
  ·have hkn : k = m + 1 := by omega
   subst hkn
   have hdk : decide (((m + 1 : Nat) : Int) < (m : Int) + 1) = false := decide_eq_false (by omega)
   have HX6 := Lib.hid (block_below HX1.out HB.out (block_lt HX1.out))
   have Hb6 := Lib.hid (Hb1.out.trans (HB.out.mono Hb1.out.size))
   have HK6 := HO
   obtain ⟨Aq, hAq⟩ : ∃ Aq, Aq = A' := ⟨_, rfl⟩
   obtain ⟨cq, hcq⟩ : ∃ cq, cq = c' := ⟨_, rfl⟩
   subst hAq hcq
   obtain ⟨w6, hw6⟩ : ∃ w6 : World, w6 = wr := ⟨_, rfl⟩
   subst hw6
   go_upto_region 9 with fail
   rw [HD.out]
   clear HD
   obtain ⟨p, hp⟩ : ∃ p, tmPl m a b last d = p := ⟨_, rfl⟩
   have HP := Lib.hid hp
   have hlx := block_lt HX6.out
   have HNP : Hid (∀ w', Below w6.heap.size w6 w' → Calls Tryz.prog 12 #[.agg #[.int .u8 tabD.x0, .int .u8 tabD.x1, .int .u8 tabD.x2, .int .u8 tabD.x3, .int .u8 tabD.x4, .int .u8 tabD.x5, .int .u8 tabD.x6, .int .u8 tabD.x7], .slice Aq (m + 1) cq, .agg #[.int .i64 (1 + (a : Int)), .int .i64 (1 + (b : Int))], .int .i64 last, .int .i64 d] w' (GivesPl p 0 w')) := Lib.hid fun w' hw' => ret_tm hm1 hm7 ha hb (by omega) hd1 hd2 _ _ w' (((Rd.of_own HK6.out).below hw' (Nat.le_refl _)).more hw'.size) hp
   clear hp
   go_cut [13, 14] (fun s17 s18 wx => ∃ (pb : Nat) (Ak : Option Addr) (nk ck : Nat) (An : Option Addr) (nn cn : Nat) (Af : Option Addr) (nf cf : Nat), s17 = .pointer (some ⟨pb, 0, none⟩) ∧ s18 = .int .i64 0 ∧ wx.heap[pb]? = some (.cells #[.int .u8 p.tb.x0, .int .u8 p.tb.x1, .int .u8 p.tb.x2, .int .u8 p.tb.x3, .int .u8 p.tb.x4, .int .u8 p.tb.x5, .int .u8 p.tb.x6, .int .u8 p.tb.x7, .slice Ak nk ck, .int .i64 p.s0, .int .i64 p.s1, .slice An nn cn, .slice Af nf cf] 32 (0, 0)) ∧ p.Own w6.heap.size Ak nk ck An nn cn Af nf cf wx ∧ Below w6.heap.size w6 wx ∧ w6.heap.size ≤ pb)
   case first =>
    apply tm9 ha hb hl HX6 HNP
    ·exact (Lib.hid fun _ _ d _ _ h => by cases d <;> exact h)
    ·refine Lib.hid ?_
     intros
     rename_i h1 h2 h3 h4
     dsimp only
     go_wp2_with fail
     go_meet
     exact ⟨_, _, _, _, _, _, _, _, _, _, rfl, rfl, h1, h2, h3, h4⟩
    ·kernel_rfl
   case rest =>
    obtain ⟨pb, Ak, nk, ck, An, nn, cn, Af, nf, cf, rfl, rfl, hpb, hO, hBc, hge⟩ := hcut
    obtain rfl : nk = m + 1 := by
     have h1 := (Rd.of_own hO.k).dlenD
     rw [← HP.out] at h1
     exact h1.symm.trans (bgKs_len m)
    have hln := @tm_lens m a b last d
    obtain rfl : m = nn := by
     have h1 := (Rd.of_own hO.n).ilen
     rw [← HP.out, hln.1] at h1
     exact h1
    obtain rfl : m = nf := by
     have h1 := (Rd.of_own hO.f).ilen
     rw [← HP.out, hln.2] at h1
     exact h1
    have HPb := Lib.hid hpb; have HOc := Lib.hid hO; have HBc := Lib.hid (Hb6.out.trans (hBc.mono Hb6.out.size))
    have hbl := block_lt hpb
    clear hpb hO hBc hln
    have hck := tm_check (a := a) (b := b) (last := last) (d := d) hm1 hm7 ha hb (by omega) hd1 hd2 (wn := (d : Int)) (by omega) (by omega)
    rw [if_neg (by omega), HP.out] at hck
    have hck2 := tm_check (a := a) (b := b) (last := last) (d := d) hm1 hm7 ha hb (by omega) hd1 hd2 (wn := (d : Int) + 1) (by omega) (by omega)
    rw [HP.out] at hck2
    have HCk := Lib.hid hck; have HCk2 := Lib.hid hck2
    clear hck hck2
    have hsub : (m : Int) + 1 - 1 = (m : Int) := by omega
    have b1 : ((m : Int) != (m : Int)) = false := by simp
    go_upto_region 11 with (first | (go_at_call 14; refine (known_any wc).mono ?_; rintro e w8 ⟨rfl, hb8⟩; have HPb8 := Lib.hid (block_below HPb.out hb8 hbl); have HO8 := Lib.hid (HOc.out.tk (T := fun _ => False) (TK.of_below hb8) (fun e => e) (fun e => e)); have HB8 := Lib.hid (HBc.out.trans (hb8.mono HBc.out.size)); clear hb8; have r := block_cell HPb8.out; have r0 := r 0; have r1 := r 1; have r2 := r 2; have r3 := r 3; have r4 := r 4; have r5 := r 5; have r6 := r 6; have r7 := r 7; have r8 := r 8; have r9 := r 9; have r10 := r 10; have r11 := r 11; have r12 := r 12; simp at r0 r1 r2 r3 r4 r5 r6 r7 r8 r9 r10 r11 r12; clear r) | (go_at_call 15; refine (plcheck_any p Ak (m + 1) ck An m cn Af m cf (d : Int) w8 HO8.out.at_).mono ?_; rw [HCk.out]; rintro e w9 ⟨rfl, hb9⟩; have HPb9 := Lib.hid (block_below HPb8.out hb9 (block_lt HPb8.out)); have HO9 := Lib.hid (HO8.out.tk (T := fun _ => False) (TK.of_below hb9) (fun e => e) (fun e => e)); have HB9 := Lib.hid (HB8.out.trans (hb9.mono HB8.out.size)); clear hb9 r0 r1 r2 r3 r4 r5 r6 r7 r8 r9 r10 r11 r12; have r11 := block_cell HPb9.out 11; have r12 := block_cell HPb9.out 12; simp at r11 r12))
    go_upto_region 13 with fail
    clear r11 r12 hbl
    have hbl := block_lt HPb9.out
    have hok := tm_ok (a := a) (b := b) (last := last) (d := d) hm1 hm7 ha hb (by omega) hd1 hd2
    rw [HP.out] at hok
    have hkl : p.ks.length = m + 1 := by rw [← HP.out]; exact bgKs_len m
    have HOk := Lib.hid hok; have Hkl := Lib.hid hkl
    have HU : Hid (∀ i, i < m → (last : Int) + d ≤ p.nr.getD i 0 ∧ (last : Int) + d ≤ p.fr.getD i 0 ∧ p.nr.getD i 0 ≤ 5000000000 ∧ p.fr.getD i 0 ≤ 5000000000) := Lib.hid (by rw [← HP.out]; exact fun i hi => tm_until hm1 hm7 (by omega) hd1 hd2 hi)
    have HSt : Hid (∀ i, i < m → 0 < i → p.nr.getD (i - 1) 0 = p.nr.getD i 0 + d ∧ p.fr.getD i 0 = p.fr.getD (i - 1) 0 + d) := Lib.hid (by rw [← HP.out]; exact fun i hi hi0 => tm_steps hi hi0)
    have HLk : Hid (∀ (v : World) (hop : Nat) (wh : Int), Below w9.heap.size w9 v → hop < m → wh = 0 ∨ wh = 1 → Calls Tryz.prog 16 #[.agg #[.int .u8 p.tb.x0, .int .u8 p.tb.x1, .int .u8 p.tb.x2, .int .u8 p.tb.x3, .int .u8 p.tb.x4, .int .u8 p.tb.x5, .int .u8 p.tb.x6, .int .u8 p.tb.x7, .slice Ak (m + 1) ck, .int .i64 p.s0, .int .i64 p.s1, .slice An m cn, .slice Af m cf], .int .i64 hop, .int .i64 wh] v (GivesLk (p.lock hop wh) 0 v)) := Lib.hid fun v hop wh hv hh hw => pllock_ok p Ak (m + 1) ck An m cn Af m cf hop wh v (HO9.out.at_.up hv) (by omega) hh hh hw
    clear hok hkl
    go_loopw [89] (fun i wr => ∃ (k : Nat), k ≤ m ∧ i = .int .i64 k ∧ Hid (Below w9.heap.size w9 wr)) (fun i _ => m - (RowKit.intOf i).toNat)
    case atStart => exact ⟨0, by omega, rfl, Lib.hid (Below.refl _ _)⟩
    case round =>
     obtain ⟨k, hk, rfl, HB⟩ := hrel
     by_cases hlt : k < m
     ·have hd3 : decide ((k : Int) < (m : Int)) = true := decide_eq_true (by omega)
      have hki : (k : Int) < (m : Int) := by omega
      have HPr := Lib.hid (block_below HPb9.out HB.out hbl)
      have hgood0 := HOk.out.good (hop := k) (by have := Hkl.out; omega) (.inl rfl)
      have hgood1 := HOk.out.good (hop := k) (by have := Hkl.out; omega) (.inr rfl)
      have hfit0 := HOk.out.fit (hop := k) (by have := Hkl.out; omega) (.inl rfl)
      have hfit1 := HOk.out.fit (hop := k) (by have := Hkl.out; omega) (.inr rfl)
      have hfx0 := HOk.out.fit (hop := 0) (by have := Hkl.out; omega) (.inl rfl)
      have hfx1 := HOk.out.fit (hop := 0) (by have := Hkl.out; omega) (.inr rfl)
      obtain ⟨l0, hl0⟩ : ∃ l, p.lock k 0 = l := ⟨_, rfl⟩
      obtain ⟨l1, hl1⟩ : ∃ l, p.lock k 1 = l := ⟨_, rfl⟩
      obtain ⟨x0, hx0⟩ : ∃ l, p.lock 0 0 = l := ⟨_, rfl⟩
      obtain ⟨x1, hx1⟩ : ∃ l, p.lock 0 1 = l := ⟨_, rfl⟩
      have hu0 : l0.un = p.nr.getD k 0 := by rw [← hl0]; rfl
      have hu1 : l1.un = p.fr.getD k 0 := by rw [← hl1]; rfl
      have hn0 : l0.name = x0.name := by rw [← hl0, ← hx0]; rfl
      have hn1 : l1.name = x1.name := by rw [← hl1, ← hx1]; rfl
      rw [hl0] at hgood0 hfit0; rw [hl1] at hgood1 hfit1; rw [hx0] at hfx0; rw [hx1] at hfx1
      have HG0 := Lib.hid hgood0; have HG1 := Lib.hid hgood1; have HF0 := Lib.hid hfit0; have HF1 := Lib.hid hfit1; have HX0 := Lib.hid hfx0; have HX1' := Lib.hid hfx1
      have HL0 := Lib.hid hl0; have HL1 := Lib.hid hl1; have HLx0 := Lib.hid hx0; have HLx1 := Lib.hid hx1
      have HU0 := Lib.hid hu0; have HU1 := Lib.hid hu1; have HN0 := Lib.hid hn0; have HN1 := Lib.hid hn1
      clear hgood0 hgood1 hfit0 hfit1 hfx0 hfx1 hl0 hl1 hx0 hx1 hu0 hu1 hn0 hn1
      obtain ⟨wo, rfl⟩ : ∃ wo : World, wo = wr := ⟨_, rfl⟩
      go_upto_region 15 with fail
      go_cut [16, 17] (fun sd se wx => ∃ (lb : Nat) (A : Option Addr) (c : Nat), sd = .pointer (some ⟨lb, 0, none⟩) ∧ se = .int .i64 0 ∧ wx.heap[lb]? = some (.cells #[.int .i64 l0.kd, .int .u8 l0.hs.x0, .int .u8 l0.hs.x1, .int .u8 l0.hs.x2, .int .u8 l0.hs.x3, .int .u8 l0.hs.x4, .int .u8 l0.hs.x5, .int .u8 l0.hs.x6, .int .u8 l0.hs.x7, .slice A 2 c, .int .i64 l0.st, .int .i64 l0.cp, .int .i64 l0.un] 40 (0, 0)) ∧ Rd wx wx.heap.size 8 A 2 (flatD l0.ks) ∧ Below wo.heap.size wo wx)
      case first =>
       refine wp_region_list ?_
       refine wpList_load_mid (by rfl) 32 _ (by rfl) pb 0 (by rfl) [.int .u8 p.tb.x0, .int .u8 p.tb.x1, .int .u8 p.tb.x2, .int .u8 p.tb.x3, .int .u8 p.tb.x4, .int .u8 p.tb.x5, .int .u8 p.tb.x6, .int .u8 p.tb.x7, .slice Ak (m + 1) ck, .int .i64 p.s0, .int .i64 p.s1, .slice An m cn, .slice Af m cf] _ (range_all HPr.out) Tryz.underlying32 rfl (by kernel_rfl) ?_
       simp only [Act.put, sA, sZ, sS]
       go_wp2_with fail
       refine (HLk.out wo k 0 HB.out hlt (.inl rfl)).mono ?_
       rintro e v1 ⟨A1, n1, c1, rfl, hr1, -, hb1⟩
       obtain rfl : 2 = n1 := hr1.dlenD
       rw [HL0.out] at hr1 ⊢
       have hbo := below_one v1 (.cells #[.int .i64 l0.kd, .int .u8 l0.hs.x0, .int .u8 l0.hs.x1, .int .u8 l0.hs.x2, .int .u8 l0.hs.x3, .int .u8 l0.hs.x4, .int .u8 l0.hs.x5, .int .u8 l0.hs.x6, .int .u8 l0.hs.x7, .slice A1 2 c1, .int .i64 l0.st, .int .i64 l0.cp, .int .i64 l0.un] 40)
       have hL2 : (v1.alloc (.cells #[.int .i64 l0.kd, .int .u8 l0.hs.x0, .int .u8 l0.hs.x1, .int .u8 l0.hs.x2, .int .u8 l0.hs.x3, .int .u8 l0.hs.x4, .int .u8 l0.hs.x5, .int .u8 l0.hs.x6, .int .u8 l0.hs.x7, .slice A1 2 c1, .int .i64 l0.st, .int .i64 l0.cp, .int .i64 l0.un] 40)).heap[v1.heap.size]? = some (.cells #[.int .i64 l0.kd, .int .u8 l0.hs.x0, .int .u8 l0.hs.x1, .int .u8 l0.hs.x2, .int .u8 l0.hs.x3, .int .u8 l0.hs.x4, .int .u8 l0.hs.x5, .int .u8 l0.hs.x6, .int .u8 l0.hs.x7, .slice A1 2 c1, .int .i64 l0.st, .int .i64 l0.cp, .int .i64 l0.un] 40 (0, 0)) := heap_alloc_new _ _
       have HL2 := Lib.hid hL2
       have HB1' := Lib.hid (hb1.trans (hbo.mono hb1.size))
       have HR1' := Lib.hid ((hr1.below hbo (Nat.le_refl _)).more (B' := (v1.alloc (.cells #[.int .i64 l0.kd, .int .u8 l0.hs.x0, .int .u8 l0.hs.x1, .int .u8 l0.hs.x2, .int .u8 l0.hs.x3, .int .u8 l0.hs.x4, .int .u8 l0.hs.x5, .int .u8 l0.hs.x6, .int .u8 l0.hs.x7, .slice A1 2 c1, .int .i64 l0.st, .int .i64 l0.cp, .int .i64 l0.un] 40)).heap.size) (by simp))
       clear hr1 hb1 hbo hL2
       go_wp2_with fail
       go_meet
       exact ⟨v1.heap.size, A1, c1, rfl, rfl, HL2.out, HR1'.out, HB1'.out⟩
      obtain ⟨la, Ala, cla, rfl, rfl, hL2, hR2, hB2⟩ := hcut
      obtain ⟨v2, hv2⟩ : ∃ v : World, v = wc := ⟨_, rfl⟩
      subst hv2
      have HLa := Lib.hid hL2; have HRa := Lib.hid hR2; have HB2 := Lib.hid hB2
      clear hL2 hR2 hB2
      have HBa := Lib.hid (HB.out.trans (HB2.out.mono HB.out.size))
      have HPr2 := Lib.hid (block_below HPb9.out HBa.out hbl)
      go_upto_region 16 with fail
      go_cut [18, 19] (fun sd se wx => ∃ (lb : Nat) (A : Option Addr) (c : Nat), sd = .pointer (some ⟨lb, 0, none⟩) ∧ se = .int .i64 0 ∧ wx.heap[lb]? = some (.cells #[.int .i64 l1.kd, .int .u8 l1.hs.x0, .int .u8 l1.hs.x1, .int .u8 l1.hs.x2, .int .u8 l1.hs.x3, .int .u8 l1.hs.x4, .int .u8 l1.hs.x5, .int .u8 l1.hs.x6, .int .u8 l1.hs.x7, .slice A 2 c, .int .i64 l1.st, .int .i64 l1.cp, .int .i64 l1.un] 40 (0, 0)) ∧ Rd wx wx.heap.size 8 A 2 (flatD l1.ks) ∧ Below v2.heap.size v2 wx)
      case first =>
       refine wp_region_list ?_
       refine wpList_load_mid (by rfl) 32 _ (by rfl) pb 0 (by rfl) [.int .u8 p.tb.x0, .int .u8 p.tb.x1, .int .u8 p.tb.x2, .int .u8 p.tb.x3, .int .u8 p.tb.x4, .int .u8 p.tb.x5, .int .u8 p.tb.x6, .int .u8 p.tb.x7, .slice Ak (m + 1) ck, .int .i64 p.s0, .int .i64 p.s1, .slice An m cn, .slice Af m cf] _ (range_all HPr2.out) Tryz.underlying32 rfl (by kernel_rfl) ?_
       simp only [Act.put, sA, sZ, sS]
       go_wp2_with fail
       refine (HLk.out v2 k 1 HBa.out hlt (.inr rfl)).mono ?_
       rintro e v1 ⟨A1, n1, c1, rfl, hr1, -, hb1⟩
       obtain rfl : 2 = n1 := hr1.dlenD
       rw [HL1.out] at hr1 ⊢
       have hbo := below_one v1 (.cells #[.int .i64 l1.kd, .int .u8 l1.hs.x0, .int .u8 l1.hs.x1, .int .u8 l1.hs.x2, .int .u8 l1.hs.x3, .int .u8 l1.hs.x4, .int .u8 l1.hs.x5, .int .u8 l1.hs.x6, .int .u8 l1.hs.x7, .slice A1 2 c1, .int .i64 l1.st, .int .i64 l1.cp, .int .i64 l1.un] 40)
       have hL2 : (v1.alloc (.cells #[.int .i64 l1.kd, .int .u8 l1.hs.x0, .int .u8 l1.hs.x1, .int .u8 l1.hs.x2, .int .u8 l1.hs.x3, .int .u8 l1.hs.x4, .int .u8 l1.hs.x5, .int .u8 l1.hs.x6, .int .u8 l1.hs.x7, .slice A1 2 c1, .int .i64 l1.st, .int .i64 l1.cp, .int .i64 l1.un] 40)).heap[v1.heap.size]? = some (.cells #[.int .i64 l1.kd, .int .u8 l1.hs.x0, .int .u8 l1.hs.x1, .int .u8 l1.hs.x2, .int .u8 l1.hs.x3, .int .u8 l1.hs.x4, .int .u8 l1.hs.x5, .int .u8 l1.hs.x6, .int .u8 l1.hs.x7, .slice A1 2 c1, .int .i64 l1.st, .int .i64 l1.cp, .int .i64 l1.un] 40 (0, 0)) := heap_alloc_new _ _
       have HL2 := Lib.hid hL2
       have HB1' := Lib.hid (hb1.trans (hbo.mono hb1.size))
       have HR1' := Lib.hid ((hr1.below hbo (Nat.le_refl _)).more (B' := (v1.alloc (.cells #[.int .i64 l1.kd, .int .u8 l1.hs.x0, .int .u8 l1.hs.x1, .int .u8 l1.hs.x2, .int .u8 l1.hs.x3, .int .u8 l1.hs.x4, .int .u8 l1.hs.x5, .int .u8 l1.hs.x6, .int .u8 l1.hs.x7, .slice A1 2 c1, .int .i64 l1.st, .int .i64 l1.cp, .int .i64 l1.un] 40)).heap.size) (by simp))
       clear hr1 hb1 hbo hL2
       go_wp2_with fail
       go_meet
       exact ⟨v1.heap.size, A1, c1, rfl, rfl, HL2.out, HR1'.out, HB1'.out⟩
      obtain ⟨lb, Alb, clb, rfl, rfl, hL2, hR2, hB2⟩ := hcut
      obtain ⟨v4, hv2⟩ : ∃ v : World, v = wc := ⟨_, rfl⟩
      subst hv2
      have HLb := Lib.hid hL2; have HRb := Lib.hid hR2; have HB4 := Lib.hid hB2
      clear hL2 hR2 hB2
      have HBb := Lib.hid (HBa.out.trans (HB4.out.mono HBa.out.size))
      have HPr4 := Lib.hid (block_below HPb9.out HBb.out hbl)
      have HLa4 := Lib.hid (block_below HLa.out HB4.out (block_lt HLa.out))
      have HRa4 := Lib.hid ((HRa.out.below HB4.out (Nat.le_refl _)).more HB4.out.size)
      clear HLa HRa HPr2 HPr
      go_upto_region 17 with fail
      go_cut [151] (fun s151 wx => s151 = .bool false ∧ Below v4.heap.size v4 wx)
      case first =>
       apply tm17 hlt hl hd2 (Lib.hid (HO9.out.at_.up HBb.out)) HPr4 HLa4 HLb HG0 HG1 HU0 HU1 (Lib.hid (by rw [HU0.out, HU1.out]; exact HU.out k hlt))
       ·refine Lib.hid ?_
        intros
        rename_i hb
        dsimp only
        go_wp2_with fail
        go_meet
        exact ⟨rfl, hb⟩
       ·kernel_rfl
      obtain ⟨rfl, hB6⟩ := hcut
      have HB6 := Lib.hid hB6
      obtain ⟨v6, hv6⟩ : ∃ v : World, v = wc := ⟨_, rfl⟩
      subst hv6
      have HB7 := Lib.hid (HBb.out.trans (HB6.out.mono HBb.out.size))
      have HPr7 := Lib.hid (block_below HPb9.out HB7.out hbl)
      clear hB6
      go_upto_region 19 with fail
      go_cut [185] (fun s185 wx => s185 = .bool false ∧ Below v6.heap.size v6 wx)
      case first =>
       have HUz : Hid (∀ i, i < m → 0 ≤ p.nr.getD i 0 ∧ 0 ≤ p.fr.getD i 0 ∧ p.nr.getD i 0 ≤ 5000000000 ∧ p.fr.getD i 0 ≤ 5000000000) := Lib.hid fun i hi => by have := HU.out i hi; omega
       rcases Nat.eq_zero_or_pos k with hk0 | hk0
       ·have Hk0 := Lib.hid hk0
        clear hk0
        apply tm19a hlt hm7 hd2 (Lib.hid (HO9.out.at_.up HB7.out)) HPr7 (Lib.hid fun h => HSt.out k hlt h) HUz Hk0.out
        ·exact (Lib.hid fun _ _ d _ _ h => by cases d <;> exact h)
        ·refine Lib.hid ?_
         intros
         rename_i hb
         dsimp only
         go_wp2_with fail
         go_meet
         exact ⟨rfl, hb⟩
        ·kernel_rfl
       ·have Hk0 := Lib.hid hk0
        clear hk0
        apply tm19b hlt hm7 hd2 (Lib.hid (HO9.out.at_.up HB7.out)) HPr7 (Lib.hid fun h => HSt.out k hlt h) HUz Hk0.out
        ·refine Lib.hid ?_
         intros
         rename_i hb
         dsimp only
         go_wp2_with fail
         go_meet
         exact ⟨rfl, hb⟩
        ·kernel_rfl
      obtain ⟨rfl, hB8⟩ := hcut
      have HB8' := Lib.hid hB8
      obtain ⟨v7, hv7⟩ : ∃ v : World, v = wc := ⟨_, rfl⟩
      subst hv7
      have HBd := Lib.hid (HB7.out.trans (hB8.mono HB7.out.size))
      have HPr8 := Lib.hid (block_below HPb9.out HBd.out hbl)
      have HB46 := Lib.hid (HB6.out.trans (hB8.mono HB6.out.size))
      have HLa7 := Lib.hid (block_below HLa4.out HB46.out (block_lt HLa4.out))
      have HRa7 := Lib.hid ((HRa4.out.below HB46.out (Nat.le_refl _)).more HB46.out.size)
      have HLb7 := Lib.hid (block_below HLb.out HB46.out (block_lt HLb.out))
      have HRb7 := Lib.hid ((HRb.out.below HB46.out (Nat.le_refl _)).more HB46.out.size)
      clear hB8 HLa4 HRa4 HLb HRb HPr7 HPr4
      have hmm : 0 < m := by omega
      go_upto_region 21 with fail
      go_cut [20, 21] (fun sd se wx => ∃ (lb : Nat) (A : Option Addr) (c : Nat), sd = .pointer (some ⟨lb, 0, none⟩) ∧ se = .int .i64 0 ∧ wx.heap[lb]? = some (.cells #[.int .i64 x0.kd, .int .u8 x0.hs.x0, .int .u8 x0.hs.x1, .int .u8 x0.hs.x2, .int .u8 x0.hs.x3, .int .u8 x0.hs.x4, .int .u8 x0.hs.x5, .int .u8 x0.hs.x6, .int .u8 x0.hs.x7, .slice A 2 c, .int .i64 x0.st, .int .i64 x0.cp, .int .i64 x0.un] 40 (0, 0)) ∧ Rd wx wx.heap.size 8 A 2 (flatD x0.ks) ∧ Below v7.heap.size v7 wx)
      case first =>
       refine wp_region_list ?_
       refine wpList_load_mid (by rfl) 32 _ (by rfl) pb 0 (by rfl) [.int .u8 p.tb.x0, .int .u8 p.tb.x1, .int .u8 p.tb.x2, .int .u8 p.tb.x3, .int .u8 p.tb.x4, .int .u8 p.tb.x5, .int .u8 p.tb.x6, .int .u8 p.tb.x7, .slice Ak (m + 1) ck, .int .i64 p.s0, .int .i64 p.s1, .slice An m cn, .slice Af m cf] _ (range_all HPr8.out) Tryz.underlying32 rfl (by kernel_rfl) ?_
       simp only [Act.put, sA, sZ, sS]
       go_wp2_with fail
       refine ((show Calls Tryz.prog 16 #[.agg #[.int .u8 p.tb.x0, .int .u8 p.tb.x1, .int .u8 p.tb.x2, .int .u8 p.tb.x3, .int .u8 p.tb.x4, .int .u8 p.tb.x5, .int .u8 p.tb.x6, .int .u8 p.tb.x7, .slice Ak (m + 1) ck, .int .i64 p.s0, .int .i64 p.s1, .slice An m cn, .slice Af m cf], .int .i64 0, .int .i64 0] v7 _ from HLk.out v7 0 0 HBd.out hmm (.inl rfl))).mono ?_
       rintro e v1 ⟨A1, n1, c1, rfl, hr1, -, hb1⟩
       obtain rfl : 2 = n1 := hr1.dlenD
       rw [HLx0.out] at hr1 ⊢
       have hbo := below_one v1 (.cells #[.int .i64 x0.kd, .int .u8 x0.hs.x0, .int .u8 x0.hs.x1, .int .u8 x0.hs.x2, .int .u8 x0.hs.x3, .int .u8 x0.hs.x4, .int .u8 x0.hs.x5, .int .u8 x0.hs.x6, .int .u8 x0.hs.x7, .slice A1 2 c1, .int .i64 x0.st, .int .i64 x0.cp, .int .i64 x0.un] 40)
       have hL2 : (v1.alloc (.cells #[.int .i64 x0.kd, .int .u8 x0.hs.x0, .int .u8 x0.hs.x1, .int .u8 x0.hs.x2, .int .u8 x0.hs.x3, .int .u8 x0.hs.x4, .int .u8 x0.hs.x5, .int .u8 x0.hs.x6, .int .u8 x0.hs.x7, .slice A1 2 c1, .int .i64 x0.st, .int .i64 x0.cp, .int .i64 x0.un] 40)).heap[v1.heap.size]? = some (.cells #[.int .i64 x0.kd, .int .u8 x0.hs.x0, .int .u8 x0.hs.x1, .int .u8 x0.hs.x2, .int .u8 x0.hs.x3, .int .u8 x0.hs.x4, .int .u8 x0.hs.x5, .int .u8 x0.hs.x6, .int .u8 x0.hs.x7, .slice A1 2 c1, .int .i64 x0.st, .int .i64 x0.cp, .int .i64 x0.un] 40 (0, 0)) := heap_alloc_new _ _
       have HL2 := Lib.hid hL2
       have HB1' := Lib.hid (hb1.trans (hbo.mono hb1.size))
       have HR1' := Lib.hid ((hr1.below hbo (Nat.le_refl _)).more (B' := (v1.alloc (.cells #[.int .i64 x0.kd, .int .u8 x0.hs.x0, .int .u8 x0.hs.x1, .int .u8 x0.hs.x2, .int .u8 x0.hs.x3, .int .u8 x0.hs.x4, .int .u8 x0.hs.x5, .int .u8 x0.hs.x6, .int .u8 x0.hs.x7, .slice A1 2 c1, .int .i64 x0.st, .int .i64 x0.cp, .int .i64 x0.un] 40)).heap.size) (by simp))
       clear hr1 hb1 hbo hL2
       go_wp2_with fail
       go_meet
       exact ⟨v1.heap.size, A1, c1, rfl, rfl, HL2.out, HR1'.out, HB1'.out⟩
      obtain ⟨lc, Alc, clc, rfl, rfl, hL2, hR2, hB2⟩ := hcut
      obtain ⟨v8, hv2⟩ : ∃ v : World, v = wc := ⟨_, rfl⟩
      subst hv2
      have HLc := Lib.hid hL2; have HRc := Lib.hid hR2; have HBe := Lib.hid hB2
      clear hL2 hR2 hB2
      have HBf := Lib.hid (HBd.out.trans (HBe.out.mono HBd.out.size))
      have HPr9 := Lib.hid (block_below HPb9.out HBf.out hbl)
      go_upto_region 22 with fail
      go_cut [22, 23] (fun sd se wx => ∃ (lb : Nat) (A : Option Addr) (c : Nat), sd = .pointer (some ⟨lb, 0, none⟩) ∧ se = .int .i64 0 ∧ wx.heap[lb]? = some (.cells #[.int .i64 x1.kd, .int .u8 x1.hs.x0, .int .u8 x1.hs.x1, .int .u8 x1.hs.x2, .int .u8 x1.hs.x3, .int .u8 x1.hs.x4, .int .u8 x1.hs.x5, .int .u8 x1.hs.x6, .int .u8 x1.hs.x7, .slice A 2 c, .int .i64 x1.st, .int .i64 x1.cp, .int .i64 x1.un] 40 (0, 0)) ∧ Rd wx wx.heap.size 8 A 2 (flatD x1.ks) ∧ Below v8.heap.size v8 wx)
      case first =>
       refine wp_region_list ?_
       refine wpList_load_mid (by rfl) 32 _ (by rfl) pb 0 (by rfl) [.int .u8 p.tb.x0, .int .u8 p.tb.x1, .int .u8 p.tb.x2, .int .u8 p.tb.x3, .int .u8 p.tb.x4, .int .u8 p.tb.x5, .int .u8 p.tb.x6, .int .u8 p.tb.x7, .slice Ak (m + 1) ck, .int .i64 p.s0, .int .i64 p.s1, .slice An m cn, .slice Af m cf] _ (range_all HPr9.out) Tryz.underlying32 rfl (by kernel_rfl) ?_
       simp only [Act.put, sA, sZ, sS]
       go_wp2_with fail
       refine ((show Calls Tryz.prog 16 #[.agg #[.int .u8 p.tb.x0, .int .u8 p.tb.x1, .int .u8 p.tb.x2, .int .u8 p.tb.x3, .int .u8 p.tb.x4, .int .u8 p.tb.x5, .int .u8 p.tb.x6, .int .u8 p.tb.x7, .slice Ak (m + 1) ck, .int .i64 p.s0, .int .i64 p.s1, .slice An m cn, .slice Af m cf], .int .i64 0, .int .i64 1] v8 _ from HLk.out v8 0 1 HBf.out hmm (.inr rfl))).mono ?_
       rintro e v1 ⟨A1, n1, c1, rfl, hr1, -, hb1⟩
       obtain rfl : 2 = n1 := hr1.dlenD
       rw [HLx1.out] at hr1 ⊢
       have hbo := below_one v1 (.cells #[.int .i64 x1.kd, .int .u8 x1.hs.x0, .int .u8 x1.hs.x1, .int .u8 x1.hs.x2, .int .u8 x1.hs.x3, .int .u8 x1.hs.x4, .int .u8 x1.hs.x5, .int .u8 x1.hs.x6, .int .u8 x1.hs.x7, .slice A1 2 c1, .int .i64 x1.st, .int .i64 x1.cp, .int .i64 x1.un] 40)
       have hL2 : (v1.alloc (.cells #[.int .i64 x1.kd, .int .u8 x1.hs.x0, .int .u8 x1.hs.x1, .int .u8 x1.hs.x2, .int .u8 x1.hs.x3, .int .u8 x1.hs.x4, .int .u8 x1.hs.x5, .int .u8 x1.hs.x6, .int .u8 x1.hs.x7, .slice A1 2 c1, .int .i64 x1.st, .int .i64 x1.cp, .int .i64 x1.un] 40)).heap[v1.heap.size]? = some (.cells #[.int .i64 x1.kd, .int .u8 x1.hs.x0, .int .u8 x1.hs.x1, .int .u8 x1.hs.x2, .int .u8 x1.hs.x3, .int .u8 x1.hs.x4, .int .u8 x1.hs.x5, .int .u8 x1.hs.x6, .int .u8 x1.hs.x7, .slice A1 2 c1, .int .i64 x1.st, .int .i64 x1.cp, .int .i64 x1.un] 40 (0, 0)) := heap_alloc_new _ _
       have HL2 := Lib.hid hL2
       have HB1' := Lib.hid (hb1.trans (hbo.mono hb1.size))
       have HR1' := Lib.hid ((hr1.below hbo (Nat.le_refl _)).more (B' := (v1.alloc (.cells #[.int .i64 x1.kd, .int .u8 x1.hs.x0, .int .u8 x1.hs.x1, .int .u8 x1.hs.x2, .int .u8 x1.hs.x3, .int .u8 x1.hs.x4, .int .u8 x1.hs.x5, .int .u8 x1.hs.x6, .int .u8 x1.hs.x7, .slice A1 2 c1, .int .i64 x1.st, .int .i64 x1.cp, .int .i64 x1.un] 40)).heap.size) (by simp))
       clear hr1 hb1 hbo hL2
       go_wp2_with fail
       go_meet
       exact ⟨v1.heap.size, A1, c1, rfl, rfl, HL2.out, HR1'.out, HB1'.out⟩
      obtain ⟨ld, Ald, cld, rfl, rfl, hL2, hR2, hB2⟩ := hcut
      obtain ⟨v9, hv2⟩ : ∃ v : World, v = wc := ⟨_, rfl⟩
      subst hv2
      have HLd := Lib.hid hL2; have HRd := Lib.hid hR2; have HBg := Lib.hid hB2
      clear hL2 hR2 hB2
      have HLc9 := Lib.hid (block_below HLc.out HBg.out (block_lt HLc.out))
      have HRc9 := Lib.hid ((HRc.out.below HBg.out (Nat.le_refl _)).more HBg.out.size)
      have HB79 := Lib.hid (HBe.out.trans (HBg.out.mono HBe.out.size))
      have HLa9 := Lib.hid (block_below HLa7.out HB79.out (block_lt HLa7.out))
      have HRa9 := Lib.hid ((HRa7.out.below HB79.out (Nat.le_refl _)).more HB79.out.size)
      have HLb9 := Lib.hid (block_below HLb7.out HB79.out (block_lt HLb7.out))
      have HRb9 := Lib.hid ((HRb7.out.below HB79.out (Nat.le_refl _)).more HB79.out.size)
      have HBh := Lib.hid (HBf.out.trans (HBg.out.mono HBf.out.size))
      clear HLa7 HRa7 HLb7 HRb7 HLc HRc HPr8 HPr9
      go_upto_region 23 with fail
      go_cut [207] (fun s207 wx => s207 = .bool false ∧ Below v9.heap.size v9 wx)
      case first =>
       have HNa : Hid (∀ v, Below v9.heap.size v9 v → Calls Tryz.prog 18 #[.agg #[.int .i64 l0.kd, .int .u8 l0.hs.x0, .int .u8 l0.hs.x1, .int .u8 l0.hs.x2, .int .u8 l0.hs.x3, .int .u8 l0.hs.x4, .int .u8 l0.hs.x5, .int .u8 l0.hs.x6, .int .u8 l0.hs.x7, .slice Ala 2 cla, .int .i64 l0.st, .int .i64 l0.cp, .int .i64 l0.un]] v fun e w' => e = .returned (.agg #[.int .u8 x0.name.x0, .int .u8 x0.name.x1, .int .u8 x0.name.x2, .int .u8 x0.name.x3, .int .u8 x0.name.x4, .int .u8 x0.name.x5, .int .u8 x0.name.x6, .int .u8 x0.name.x7]) ∧ Below v.heap.size v w') := Lib.hid fun v hv => by
        have := lkname_any l0 Ala 2 cla v ((HRa9.out.below hv (Nat.le_refl _)).more hv.size) HF0.out
        rw [HN0.out] at this
        exact this
       have HNc : Hid (∀ v, Below v9.heap.size v9 v → Calls Tryz.prog 18 #[.agg #[.int .i64 x0.kd, .int .u8 x0.hs.x0, .int .u8 x0.hs.x1, .int .u8 x0.hs.x2, .int .u8 x0.hs.x3, .int .u8 x0.hs.x4, .int .u8 x0.hs.x5, .int .u8 x0.hs.x6, .int .u8 x0.hs.x7, .slice Alc 2 clc, .int .i64 x0.st, .int .i64 x0.cp, .int .i64 x0.un]] v fun e w' => e = .returned (.agg #[.int .u8 x0.name.x0, .int .u8 x0.name.x1, .int .u8 x0.name.x2, .int .u8 x0.name.x3, .int .u8 x0.name.x4, .int .u8 x0.name.x5, .int .u8 x0.name.x6, .int .u8 x0.name.x7]) ∧ Below v.heap.size v w') := Lib.hid fun v hv => lkname_any x0 Alc 2 clc v ((HRc9.out.below hv (Nat.le_refl _)).more hv.size) HX0.out
       have HNb : Hid (∀ v, Below v9.heap.size v9 v → Calls Tryz.prog 18 #[.agg #[.int .i64 l1.kd, .int .u8 l1.hs.x0, .int .u8 l1.hs.x1, .int .u8 l1.hs.x2, .int .u8 l1.hs.x3, .int .u8 l1.hs.x4, .int .u8 l1.hs.x5, .int .u8 l1.hs.x6, .int .u8 l1.hs.x7, .slice Alb 2 clb, .int .i64 l1.st, .int .i64 l1.cp, .int .i64 l1.un]] v fun e w' => e = .returned (.agg #[.int .u8 x1.name.x0, .int .u8 x1.name.x1, .int .u8 x1.name.x2, .int .u8 x1.name.x3, .int .u8 x1.name.x4, .int .u8 x1.name.x5, .int .u8 x1.name.x6, .int .u8 x1.name.x7]) ∧ Below v.heap.size v w') := Lib.hid fun v hv => by
        have := lkname_any l1 Alb 2 clb v ((HRb9.out.below hv (Nat.le_refl _)).more hv.size) HF1.out
        rw [HN1.out] at this
        exact this
       have HNd : Hid (∀ v, Below v9.heap.size v9 v → Calls Tryz.prog 18 #[.agg #[.int .i64 x1.kd, .int .u8 x1.hs.x0, .int .u8 x1.hs.x1, .int .u8 x1.hs.x2, .int .u8 x1.hs.x3, .int .u8 x1.hs.x4, .int .u8 x1.hs.x5, .int .u8 x1.hs.x6, .int .u8 x1.hs.x7, .slice Ald 2 cld, .int .i64 x1.st, .int .i64 x1.cp, .int .i64 x1.un]] v fun e w' => e = .returned (.agg #[.int .u8 x1.name.x0, .int .u8 x1.name.x1, .int .u8 x1.name.x2, .int .u8 x1.name.x3, .int .u8 x1.name.x4, .int .u8 x1.name.x5, .int .u8 x1.name.x6, .int .u8 x1.name.x7]) ∧ Below v.heap.size v w') := Lib.hid fun v hv => lkname_any x1 Ald 2 cld v ((HRd.out.below hv (Nat.le_refl _)).more hv.size) HX1'.out
       clear HN0 HN1
       apply tm23 HLa9 HLb9 HLc9 HLd HNa HNb HNc HNd
       ·exact (Lib.hid fun _ _ d _ _ h => by cases d <;> exact h)
       ·refine Lib.hid ?_
        intros
        rename_i hb
        dsimp only
        go_wp2_with fail
        go_meet
        exact ⟨rfl, hb⟩
       ·kernel_rfl
      obtain ⟨rfl, hB9⟩ := hcut
      have HBi := Lib.hid (HBh.out.trans (hB9.mono HBh.out.size))
      clear hB9
      go_wp2
      go_roundw
      case rel => exact ⟨k + 1, hlt, by go_num, HBi⟩
      case measure => simp [RowKit.intOf]; omega
     ·obtain rfl : m = k := by omega
      have hd3 : decide ((m : Int) < (m : Int)) = false := decide_eq_false (by omega)
      have HPr := Lib.hid (block_below HPb9.out HB.out hbl)
      have hat := HO9.out.at_.up HB.out
      have Hat := Lib.hid hat
      clear hat
      have hcc := plcheck_any p Ak (m + 1) ck An m cn Af m cf ((d : Int) + 1) wr Hat.out
      have hend := HB9.out.trans (HB.out.mono HB9.out.size)
      have HEnd := Lib.hid hend
      clear hend
      go_upto_region 26 with fail
      refine wp_region_list ?_
      refine wpList_load_mid (by rfl) 32 _ (by rfl) pb 0 (by rfl) [.int .u8 p.tb.x0, .int .u8 p.tb.x1, .int .u8 p.tb.x2, .int .u8 p.tb.x3, .int .u8 p.tb.x4, .int .u8 p.tb.x5, .int .u8 p.tb.x6, .int .u8 p.tb.x7, .slice Ak (m + 1) ck, .int .i64 p.s0, .int .i64 p.s1, .slice An m cn, .slice Af m cf] _ (range_all HPr.out) Tryz.underlying32 rfl (by kernel_rfl) ?_
      simp only [Act.put, sA, sZ, sS]
      by_cases hm2 : 2 ≤ m
      ·rw [HCk2.out, if_pos ⟨by omega, hm2⟩] at hcc
       have HCc := Lib.hid hcc
       clear hcc
       go_wp2_with fail
       refine HCc.out.mono ?_
       rintro e v1 ⟨rfl, hb1⟩
       have hE := HEnd.out.trans (hb1.mono HEnd.out.size)
       have HE := Lib.hid hE
       clear hE hb1
       go_wp2
       go_ret
       exact ⟨rfl, HE.out⟩
      ·rw [HCk2.out, if_neg (fun x => hm2 x.2)] at hcc
       have HCc := Lib.hid hcc
       clear hcc
       have hm1' : (m : Int) + 1 = 2 := by omega
       have hb2 : ((m : Int) + 1 == 2) = true := by rw [hm1']; rfl
       clear hm1'
       go_wp2_with fail
       refine HCc.out.mono ?_
       rintro e v1 ⟨rfl, hb1⟩
       have hE := HEnd.out.trans (hb1.mono HEnd.out.size)
       have HE := Lib.hid hE
       clear hE hb1
       go_wp2
       go_ret
       exact ⟨ret_bool (by first | rfl | omega | simpa using hb2), HE.out⟩
end
end Go.Proofs.YthhiookcknnmdaaGreat
