/- The walks of openers and of a lock opened by an outcome. Conditions: bounds; the book. The walks of copied, a plan's clone and an outcome's clone. Conditions: bounds. The walk of an outcome's clone. Conditions: bounds. A way in memory; what keeps it. Nothing of the program stands in it but its tables, so there is no condition. The walks of first and unless, over any closures. Conditions: what the closures answer. -/
import Derived.Test.YthhiookcknnmdaaGreatJoinUac
import Derived.Test.YthhiookcknnmdaaGreatJoinZ
import Derived.Test.YthhiookcknnmdaaGreatPuF
import Derived.Test.YthhiookcknnmdaaGreatJoinC
namespace Go.Proofs.YthhiookcknnmdaaGreat
open Go.RowKit Go.Lib
def iV (x : Int) : Value := .int .i64 x
theorem keysI : KeySort Tryz.prog 192 3 191 Int iV (fun x => 0 ≤ x ∧ x ≤ 100) where
 und := Tryz.underlying192
 law := Go.Maps.int_keyed Tryz.underlying3
 inj a b h := by simpa [iV] using h
 key a h := ⟨_, Go.Maps.keyOf_int_mk Tryz.underlying3 (by simp [Lit.wf, show IntKind.i64.min = -9223372036854775808 from rfl, show IntKind.i64.max = 9223372036854775807 from rfl]; omega)⟩
def opL : List (Int × Value) := [(0, .func (.func 165) #[] #[]), (1, .func (.func 166) #[] #[])]
set_option maxRecDepth 100000 in
set_option maxHeartbeats 2000000 in
theorem openers_any (w : World) : Calls Tryz.prog 139 #[] w fun e w' => e = .returned (.map (some w.heap.size)) ∧ MapG iV w' w.heap.size opL ∧ Below w.heap.size w w' := by
 have hmm := @run_makeMap Tryz.prog
 have h0 : MapG iV (w.alloc (.map #[] 0)) w.heap.size ([] : List (Int × Value)) := ⟨#[], 0, heap_alloc_new _ _, rfl⟩
 obtain ⟨w1, hr1, h1, g1, z1⟩ := put_mapG keysI h0 (by simp) (by simp) 0 (by omega) (.func (.func 165) #[] #[])
 obtain ⟨w2, hr2, h2, g2, z2⟩ := put_mapG keysI h1 (by simp [alSet]) (by simp [alSet]) 1 (by omega) (.func (.func 166) #[] #[])
 simp only [iV] at hr1 hr2
 have HM := Lib.hid h2
 have HB : Hid (Below w.heap.size w w2) := Lib.hid (((below_one w _).grown g1 (by simp) (fun k hk => by cases hk; exact Nat.le_refl _)).grown g2 (by rw [z1]; simp) (fun k hk => by cases hk; exact Nat.le_refl _))
 clear h0 h1 h2 g1 g2 z1 z2
 go_enter Tryz.func139, Tryz.ntmps139
 go_wp2
 go_ret
 exact ⟨rfl, HM.out, HB.out⟩
theorem hashOf_ok (l : List Nat) : (hashOf l).ok := D8.of_ok _
theorem miss_all {p : Nat → Bool} {k : Nat} : (missTo p k).length = 0 ↔ (List.range k).all (fun i => !(p i)) = true := by
 unfold missTo
 rw [List.length_eq_zero_iff, List.filter_eq_nil_iff, List.all_eq_true]
 simp
theorem all_code (L : List En) (m : D8) (ks : List D8) (ss : List (List Nat)) (hk : ks.length = 2) : allI ks.length ss.length (missTo (lacksE L m ks ss []) ks.length) = 0 ↔ (ss.length = ks.length ∧ allE L m ks ss = true) := by
 unfold allI allE
 rw [← miss_all]
 by_cases h1 : ss.length = ks.length
 ·rw [if_neg (by omega)]
  by_cases h2 : (missTo (lacksE L m ks ss []) ks.length).length = 0
  ·simp [h1, h2]
  ·simp [h2]
 ·rw [if_pos (.inr h1)]
  simp [h1]
theorem byout_len {L : List En} {l : Lk} {o : Ou} (h : o.pays.length ≠ l.ks.length) : l.byOut L o = (0, 3) := by unfold Lk.byOut; rw [if_pos h]
theorem byout_bad {L : List En} {l : Lk} {o : Ou} (h : o.pays.length = l.ks.length) {k : Nat} (hk : k < o.pays.length) (h2 : rgt (o.pays.getD k 0) = false) : l.byOut L o = (0, 22) := by
 unfold Lk.byOut
 have : o.pays.all rgt = false := by
  rw [List.all_eq_false]
  exact ⟨o.pays.getD k 0, by rw [List.getD_eq_getElem?_getD, List.getElem?_eq_getElem hk]; exact List.getElem_mem _, by rw [h2]; simp⟩
 rw [if_neg (by simp [h]), this]; simp
theorem byout_rest {L : List En} {l : Lk} {o : Ou} (h : o.pays.length = l.ks.length) (h2 : ∀ k, k < o.pays.length → rgt (o.pays.getD k 0) = true) :
  l.byOut L o = if o.sigs.length = l.ks.length ∧ allE L (payD l.hs o.pays) l.ks o.sigs then (max 0 (l.cp - o.pays.getD l.st.toNat 0), 0) else (0, 16) := by
 unfold Lk.byOut
 have : o.pays.all rgt = true := by
  rw [List.all_eq_true]
  intro x hx
  obtain ⟨k, hk, rfl⟩ := List.mem_iff_getElem.1 hx
  have := h2 k hk
  rwa [List.getD_eq_getElem?_getD, List.getElem?_eq_getElem hk] at this
 rw [if_neg (by simp [h]), if_pos this]
set_option maxRecDepth 100000 in
set_option maxHeartbeats 4000000 in
theorem byout_any (B bk mb : Nat) (L : List En) (l : Lk) (A : Option Addr) (c : Nat) (o : Ou) (Ap : Option Addr) (np cp : Nat) (As : Option Addr) (ns cs : Nat) (w : World)
  (h : BookAt w B bk mb L) (hlen : L.length < 60000) (hl : l.good) (hk : Rd w w.heap.size 8 A 2 (flatD l.ks)) (hko : ∀ x ∈ l.ks, x.ok) (hh : l.hs.ok) (hp : Rd w w.heap.size 1 Ap np (ivs o.pays)) (hs : SigRd w w.heap.size As ns o.sigs) (hso : ∀ s ∈ o.sigs, s.length ≤ 1000 ∧ ∀ x ∈ s, x < 256) (hnp : np ≤ 1000000) :
  Calls Tryz.prog 166 #[.agg #[.int .i64 l.kd, .int .u8 l.hs.x0, .int .u8 l.hs.x1, .int .u8 l.hs.x2, .int .u8 l.hs.x3, .int .u8 l.hs.x4, .int .u8 l.hs.x5, .int .u8 l.hs.x6, .int .u8 l.hs.x7, .slice A 2 c, .int .i64 l.st, .int .i64 l.cp, .int .i64 l.un], .iface 51 (.pointer (some ⟨bk, 0, none⟩)), .agg #[.int .u8 0, .int .u8 0, .int .u8 0, .int .u8 0, .int .u8 0, .int .u8 0, .int .u8 0, .int .u8 0, .slice Ap np cp, .slice As ns cs]] w fun e w' => e = .returned (.tuple #[.int .i64 (l.byOut L o).1, .int .i64 (l.byOut L o).2]) ∧ Below w.heap.size w w' := by
 have HX0 : Hid (((w.alloc (.cells #[.int .i64 l.kd, .int .u8 l.hs.x0, .int .u8 l.hs.x1, .int .u8 l.hs.x2, .int .u8 l.hs.x3, .int .u8 l.hs.x4, .int .u8 l.hs.x5, .int .u8 l.hs.x6, .int .u8 l.hs.x7, .slice A 2 c, .int .i64 l.st, .int .i64 l.cp, .int .i64 l.un] 40)).alloc (.cells #[.int .u8 0, .int .u8 0, .int .u8 0, .int .u8 0, .int .u8 0, .int .u8 0, .int .u8 0, .int .u8 0, .slice Ap np cp, .slice As ns cs] 136)).heap[w.heap.size]? = some (.cells #[.int .i64 l.kd, .int .u8 l.hs.x0, .int .u8 l.hs.x1, .int .u8 l.hs.x2, .int .u8 l.hs.x3, .int .u8 l.hs.x4, .int .u8 l.hs.x5, .int .u8 l.hs.x6, .int .u8 l.hs.x7, .slice A 2 c, .int .i64 l.st, .int .i64 l.cp, .int .i64 l.un] 40 (0, 0))) := block_alloc (heap_alloc_new _ _) _
 have HY0 : Hid (((w.alloc (.cells #[.int .i64 l.kd, .int .u8 l.hs.x0, .int .u8 l.hs.x1, .int .u8 l.hs.x2, .int .u8 l.hs.x3, .int .u8 l.hs.x4, .int .u8 l.hs.x5, .int .u8 l.hs.x6, .int .u8 l.hs.x7, .slice A 2 c, .int .i64 l.st, .int .i64 l.cp, .int .i64 l.un] 40)).alloc (.cells #[.int .u8 0, .int .u8 0, .int .u8 0, .int .u8 0, .int .u8 0, .int .u8 0, .int .u8 0, .int .u8 0, .slice Ap np cp, .slice As ns cs] 136)).heap[w.heap.size + 1]? = some (.cells #[.int .u8 0, .int .u8 0, .int .u8 0, .int .u8 0, .int .u8 0, .int .u8 0, .int .u8 0, .int .u8 0, .slice Ap np cp, .slice As ns cs] 136 (0, 0))) := alloc_at (by simp)
 have Hb0 : Hid (Below w.heap.size w ((w.alloc (.cells #[.int .i64 l.kd, .int .u8 l.hs.x0, .int .u8 l.hs.x1, .int .u8 l.hs.x2, .int .u8 l.hs.x3, .int .u8 l.hs.x4, .int .u8 l.hs.x5, .int .u8 l.hs.x6, .int .u8 l.hs.x7, .slice A 2 c, .int .i64 l.st, .int .i64 l.cp, .int .i64 l.un] 40)).alloc (.cells #[.int .u8 0, .int .u8 0, .int .u8 0, .int .u8 0, .int .u8 0, .int .u8 0, .int .u8 0, .int .u8 0, .slice Ap np cp, .slice As ns cs] 136))) := below_two _ _ _
 have Hz0 : Hid (((w.alloc (.cells #[.int .i64 l.kd, .int .u8 l.hs.x0, .int .u8 l.hs.x1, .int .u8 l.hs.x2, .int .u8 l.hs.x3, .int .u8 l.hs.x4, .int .u8 l.hs.x5, .int .u8 l.hs.x6, .int .u8 l.hs.x7, .slice A 2 c, .int .i64 l.st, .int .i64 l.cp, .int .i64 l.un] 40)).alloc (.cells #[.int .u8 0, .int .u8 0, .int .u8 0, .int .u8 0, .int .u8 0, .int .u8 0, .int .u8 0, .int .u8 0, .slice Ap np cp, .slice As ns cs] 136)).heap.size = w.heap.size + 2) := by show _ = _; simp
 have H := Lib.hid h; have HL := Lib.hid hl; have HK := Lib.hid hk; have HKo := Lib.hid hko; have HH := Lib.hid hh; have HP := Lib.hid hp; have HS := Lib.hid hs; have HSo := Lib.hid hso
 have Hpl := Lib.hid hp.ilen; have Hsl := Lib.hid hs.1
 have Hn2 := Lib.hid hl.n
 have hnpi : (np : Int) ≤ 1000000 := by omega
 clear h hl hk hko hh hp hs hso
 by_cases hn : np = 2
 ·subst hn
  go_enter Tryz.func166, Tryz.ntmps166
  have r := block_cell HX0.out
  have r0 := r 0; have r1 := r 1; have r2 := r 2; have r3 := r 3; have r4 := r 4; have r5 := r 5; have r6 := r 6; have r7 := r 7; have r8 := r 8; have r9 := r 9; have r10 := r 10; have r11 := r 11; have r12 := r 12
  simp at r0 r1 r2 r3 r4 r5 r6 r7 r8 r9 r10 r11 r12
  clear r
  have y := block_cell HY0.out 8
  have y9 := block_cell HY0.out 9
  simp at y y9
  go_wp2_with fail
  generalize (w.alloc (.cells #[.int .i64 l.kd, .int .u8 l.hs.x0, .int .u8 l.hs.x1, .int .u8 l.hs.x2, .int .u8 l.hs.x3, .int .u8 l.hs.x4, .int .u8 l.hs.x5, .int .u8 l.hs.x6, .int .u8 l.hs.x7, .slice A 2 c, .int .i64 l.st, .int .i64 l.cp, .int .i64 l.un] 40)).alloc (.cells #[.int .u8 0, .int .u8 0, .int .u8 0, .int .u8 0, .int .u8 0, .int .u8 0, .int .u8 0, .int .u8 0, .slice Ap 2 cp, .slice As ns cs] 136) = w0 at *
  go_loopw [21] (fun i wr => wr = w0 ∧ ∃ k : Nat, k ≤ 2 ∧ i = .int .i64 k ∧ (∀ j, j < k → rgt (o.pays.getD j 0) = true)) (fun i _ => 2 - (RowKit.intOf i).toNat)
  case atStart => exact ⟨rfl, 0, by omega, rfl, fun j hj => absurd hj (by omega)⟩
  case round =>
   obtain ⟨rfl, k, hk, rfl, h0⟩ := hrel
   have H0 := Lib.hid h0
   clear h0
   by_cases hlt : k < 2
   ·obtain ⟨b, oo, rfl, hbB, x0⟩ := (HP.out.below Hb0.out (Nat.le_refl _)).iat hlt
    have hd1 : decide ((k : Int) < 2) = true := decide_eq_true (by omega)
    have hki : (k : Int) < 2 := by omega
    generalize hg : o.pays.getD k 0 = g at *
    have Hg := Lib.hid hg
    clear hg
    cases hq : rgt g with
    | false =>
     have Hr := Lib.hid (byout_bad (L := L) (l := l) (o := o) (by rw [Hpl.out, Hn2.out]) (k := k) (by rw [Hpl.out]; exact hlt) (by rw [Hg.out]; exact hq))
     go_wp2_with (go_at_call 151; refine (rgt_any _ _).mono ?_; rintro e w1 ⟨rfl, rfl⟩)
     go_ret2
     exact ⟨by rw [Hr.out]; rfl, Hb0.out⟩
    | true =>
     have Hq := Lib.hid hq
     go_wp2_with (go_at_call 151; refine (rgt_any _ _).mono ?_; rintro e w1 ⟨rfl, rfl⟩)
     go_roundw
     case rel =>
      refine ⟨trivial, k + 1, by omega, by go_num, fun j hj => ?_⟩
      rcases Nat.lt_or_ge j k with h1 | h1
      ·exact H0.out j h1
      ·obtain rfl : j = k := by omega
       rw [Hg.out]; exact Hq.out
     case measure => simp [RowKit.intOf]; omega
   ·have hk2 : k = 2 := by omega
    subst hk2
    have hd1 : decide (((2 : Nat) : Int) < 2) = false := by decide
    obtain ⟨a, b, hab⟩ : ∃ a b, o.pays = [a, b] := by
     have e1 := Hpl.out
     match hh : o.pays, e1 with
     | [a, b], _ => exact ⟨a, b, rfl⟩
    have hpa : okPay a := by have := H0.out 0 (by omega); rw [hab] at this; exact rgt_iff.1 this
    have hpb : okPay b := by have := H0.out 1 (by omega); rw [hab] at this; exact rgt_iff.1 this
    have HPab : Hid (Rd wr wr.heap.size 1 Ap 2 (ivs [a, b])) := by show Rd _ _ _ _ _ _; rw [← hab]; exact (HP.out.below Hb0.out (Nat.le_refl _)).more Hb0.out.size
    have Hres := Lib.hid (byout_rest (L := L) (l := l) (o := o) (by rw [Hpl.out, Hn2.out]) (fun j hj => H0.out j (by rw [Hpl.out] at hj; exact hj)))
    have Hcode := Lib.hid (all_code L (payD l.hs [a, b]) l.ks o.sigs Hn2.out)
    have Hab := Lib.hid hab
    clear hab r0 r1 r2 r3 r4 r5 r6 r7 r8 r9 r10 r11 r12 y y9
    have r := block_cell HX0.out
    have r0 := r 0; have r1 := r 1; have r2 := r 2; have r3 := r 3; have r4 := r 4; have r5 := r 5; have r6 := r 6; have r7 := r 7; have r8 := r 8; have r9 := r 9; have r10 := r 10; have r11 := r 11; have r12 := r 12
    simp at r0 r1 r2 r3 r4 r5 r6 r7 r8 r9 r10 r11 r12
    clear r
    have y := block_cell HY0.out 8
    have y9 := block_cell HY0.out 9
    simp at y y9
    go_wp2_with fail
    refine (payd_any l.hs a b Ap cp wr HH.out hpa hpb HPab.out).mono ?_
    rintro e w1 ⟨rfl, hb1⟩
    have hz1 := hb1.size
    have HX1 := Lib.hid (block_below HX0.out hb1 (block_lt HX0.out)); have HY1 := Lib.hid (block_below HY0.out hb1 (block_lt HY0.out)); have Hb1 := Lib.hid (Hb0.out.trans (hb1.mono Hb0.out.size))
    have hmok : (payD l.hs [a, b]).ok := hashOf_ok _
    have HMok := Lib.hid hmok
    clear hb1 hmok r0 r1 r2 r3 r4 r5 r6 r7 r8 r9 r10 r11 r12 y y9
    generalize hd0 : payD l.hs [a, b] = d at *
    have Hd0 := Lib.hid hd0
    clear hd0
    have HXa := Lib.hid (block_alloc HX1.out (.cells #[.int .u8 d.x0, .int .u8 d.x1, .int .u8 d.x2, .int .u8 d.x3, .int .u8 d.x4, .int .u8 d.x5, .int .u8 d.x6, .int .u8 d.x7] 27)); have HYa := Lib.hid (block_alloc HY1.out (.cells #[.int .u8 d.x0, .int .u8 d.x1, .int .u8 d.x2, .int .u8 d.x3, .int .u8 d.x4, .int .u8 d.x5, .int .u8 d.x6, .int .u8 d.x7] 27)); have Hba := Lib.hid (Hb1.out.alloc Hb1.out.size (.cells #[.int .u8 d.x0, .int .u8 d.x1, .int .u8 d.x2, .int .u8 d.x3, .int .u8 d.x4, .int .u8 d.x5, .int .u8 d.x6, .int .u8 d.x7] 27))
    have HZa := Lib.hid (heap_alloc_new w1 (.cells #[.int .u8 d.x0, .int .u8 d.x1, .int .u8 d.x2, .int .u8 d.x3, .int .u8 d.x4, .int .u8 d.x5, .int .u8 d.x6, .int .u8 d.x7] 27))
    go_upto_region 10 with fail
    generalize w1.alloc (.cells #[.int .u8 d.x0, .int .u8 d.x1, .int .u8 d.x2, .int .u8 d.x3, .int .u8 d.x4, .int .u8 d.x5, .int .u8 d.x6, .int .u8 d.x7] 27) = w2 at *
    have r9 := block_cell HXa.out 9
    have y8 := block_cell HYa.out 8; have y9 := block_cell HYa.out 9
    simp at r9 y8 y9
    obtain ⟨zf, z0, z1, z2, z3, z4, z5, z6, z7⟩ := free8 HZa.out
    go_wp2_with fail
    refine (all_any B bk mb L l.ks A 2 c d o.sigs As ns cs [] none 0 0 w2 (H.out.below Hba.out) hlen ((HK.out.below Hba.out (Nat.le_refl _)).more Hba.out.size) HKo.out HMok.out ((HS.out.below Hba.out (Nat.le_refl _)).more Hba.out.size) HSo.out Rd.empty (by omega)).mono ?_
    rintro e w3 ⟨rfl, hb3⟩
    have hc := Hcode.out
    rw [Hn2.out, Hsl.out] at hc
    have HX3 := Lib.hid (block_below HXa.out hb3 (block_lt HXa.out)); have HY3 := Lib.hid (block_below HYa.out hb3 (block_lt HYa.out)); have Hb3 := Lib.hid (Hba.out.trans (hb3.mono Hba.out.size))
    obtain ⟨pb, po, hAp, hpb', hp0⟩ := (HP.out.below Hb3.out (Nat.le_refl _)).iat (k := 0) (by omega)
    obtain ⟨pb', po', hAp', _, hp1⟩ := (HP.out.below Hb3.out (Nat.le_refl _)).iat (k := 1) (by omega)
    rw [hAp] at hAp'
    injection hAp' with hAp'; injection hAp' with e1 e2; subst e1 e2
    subst hAp
    rw [Hab.out] at hp0 hp1
    simp only [Nat.add_zero, List.getD_cons_zero, List.getD_cons_succ] at hp0 hp1
    have HC := Lib.hid hc
    clear hc hb3 r9 y8 y9 zf z0 z1 z2 z3 z4 z5 z6 z7
    generalize allI 2 ns (missTo (lacksE L d l.ks o.sigs []) 2) = q at *
    obtain ⟨⟨hc1, hc2⟩, hs01, ⟨ha1, ha2⟩, hb1', hb2'⟩ : (1 ≤ l.cp ∧ l.cp ≤ 1125899906842624) ∧ (l.st = 0 ∨ l.st = 1) ∧ (0 ≤ a ∧ a ≤ 1125899906842624) ∧ 0 ≤ b ∧ b ≤ 1125899906842624 := ⟨HL.out.c, HL.out.s, hpa, hpb⟩
    by_cases hq : q = 0
    ·have b1 : (q != 0) = false := by simpa using hq
     have Hr : Hid (l.byOut L o = (max 0 (l.cp - [a, b].getD l.st.toNat 0), 0)) := by
      show _ = _
      rw [Hres.out, Hab.out, Hn2.out, Hsl.out, Hd0.out]
      exact if_pos (HC.out.1 hq)
     clear hq hpa hpb
     have r := block_cell HX3.out
     have r0 := r 0; have r1 := r 1; have r2 := r 2; have r3 := r 3; have r4 := r 4; have r5 := r 5; have r6 := r 6; have r7 := r 7; have r8 := r 8; have r9 := r 9; have r10 := r 10; have r11 := r 11; have r12 := r 12
     simp at r0 r1 r2 r3 r4 r5 r6 r7 r8 r9 r10 r11 r12
     clear r
     have y8 := block_cell HY3.out 8
     simp at y8
     have hx : w3.cell? ⟨pb, po + l.st.toNat, none⟩ = some (.int .i64 ([a, b].getD l.st.toNat 0)) := by
      rcases hs01 with h | h <;> rw [h]
      ·exact hp0
      ·exact hp1
     have hg : 0 ≤ [a, b].getD l.st.toNat 0 ∧ [a, b].getD l.st.toNat 0 ≤ 1125899906842624 := by
      rcases hs01 with h | h <;> rw [h]
      ·exact ⟨ha1, ha2⟩
      ·exact ⟨hb1', hb2'⟩
     have hs1 : 0 ≤ l.st := by omega
     have hs2 : l.st < 2 := by omega
     generalize [a, b].getD l.st.toNat 0 = g at *
     obtain ⟨hg1, hg2⟩ := hg
     clear hs01 hp0 hp1
     go_wp2_with fail
     go_region
     all_goals
      go_wp2
      go_ret2
      exact ⟨by rw [Hr.out]; rfl, Hb3.out.drew⟩
    ·have b1 : (q != 0) = true := by simpa using hq
     have Hr : Hid (l.byOut L o = (0, 16)) := by
      show _ = _
      rw [Hres.out, Hab.out, Hn2.out, Hsl.out, Hd0.out]
      exact if_neg (fun h => hq (HC.out.2 h))
     clear hq
     go_wp2
     go_ret2
     exact ⟨by rw [Hr.out]; rfl, Hb3.out⟩
 ·have Hr := Lib.hid (byout_len (L := L) (l := l) (o := o) (by rw [Hpl.out, Hn2.out]; exact hn))
  have b1 : ((np : Int) != 2) = true := by rw [bne_iff_ne]; omega
  clear hn
  go_enter Tryz.func166, Tryz.ntmps166
  have r := block_cell HX0.out
  have r0 := r 0; have r1 := r 1; have r2 := r 2; have r3 := r 3; have r4 := r 4; have r5 := r 5; have r6 := r 6; have r7 := r 7; have r8 := r 8; have r9 := r 9; have r10 := r 10; have r11 := r 11; have r12 := r 12
  simp at r0 r1 r2 r3 r4 r5 r6 r7 r8 r9 r10 r11 r12
  clear r
  have y := block_cell HY0.out 8
  simp at y
  go_wp2
  go_ret2
  exact ⟨by rw [Hr.out]; rfl, Hb0.out⟩
theorem Lk.good.check {l : Lk} (h : l.good) : l.check = 0 := by
 have h1 := h.c; have h2 := h.u; have h3 := h.s; have h4 := h.n
 unfold Lk.check
 rw [h.k, if_neg (by omega), if_neg (by omega), if_neg (by omega), if_neg (by omega), if_neg (by omega)]
set_option maxRecDepth 100000 in
set_option maxHeartbeats 4000000 in
theorem lkopen_any (B bk mb : Nat) (L : List En) (l : Lk) (A : Option Addr) (c : Nat) (now : Int) (o : Ou) (Ap : Option Addr) (np cp : Nat) (As : Option Addr) (ns cs : Nat) (w : World)
  (h : BookAt w B bk mb L) (hlen : L.length < 60000) (hl : l.good) (hk : Rd w w.heap.size 8 A 2 (flatD l.ks)) (hko : ∀ x ∈ l.ks, x.ok) (hh : l.hs.ok) (hp : Rd w w.heap.size 1 Ap np (ivs o.pays)) (hs : SigRd w w.heap.size As ns o.sigs) (hso : ∀ s ∈ o.sigs, s.length ≤ 1000 ∧ ∀ x ∈ s, x < 256) (hnp : np ≤ 1000000) :
  Calls Tryz.prog 82 #[.agg #[.int .i64 l.kd, .int .u8 l.hs.x0, .int .u8 l.hs.x1, .int .u8 l.hs.x2, .int .u8 l.hs.x3, .int .u8 l.hs.x4, .int .u8 l.hs.x5, .int .u8 l.hs.x6, .int .u8 l.hs.x7, .slice A 2 c, .int .i64 l.st, .int .i64 l.cp, .int .i64 l.un], .iface 51 (.pointer (some ⟨bk, 0, none⟩)), .int .i64 now, .agg #[.int .u8 0, .int .u8 0, .int .u8 0, .int .u8 0, .int .u8 0, .int .u8 0, .int .u8 0, .int .u8 0, .slice Ap np cp, .slice As ns cs]] w fun e w' => e = .returned (.tuple #[.int .i64 (l.open_ L now o).1, .int .i64 (l.open_ L now o).2]) ∧ Below w.heap.size w w' := by
 have HX0 : Hid (((w.alloc (.cells #[.int .i64 l.kd, .int .u8 l.hs.x0, .int .u8 l.hs.x1, .int .u8 l.hs.x2, .int .u8 l.hs.x3, .int .u8 l.hs.x4, .int .u8 l.hs.x5, .int .u8 l.hs.x6, .int .u8 l.hs.x7, .slice A 2 c, .int .i64 l.st, .int .i64 l.cp, .int .i64 l.un] 40)).alloc (.cells #[.int .u8 0, .int .u8 0, .int .u8 0, .int .u8 0, .int .u8 0, .int .u8 0, .int .u8 0, .int .u8 0, .slice Ap np cp, .slice As ns cs] 136)).heap[w.heap.size]? = some (.cells #[.int .i64 l.kd, .int .u8 l.hs.x0, .int .u8 l.hs.x1, .int .u8 l.hs.x2, .int .u8 l.hs.x3, .int .u8 l.hs.x4, .int .u8 l.hs.x5, .int .u8 l.hs.x6, .int .u8 l.hs.x7, .slice A 2 c, .int .i64 l.st, .int .i64 l.cp, .int .i64 l.un] 40 (0, 0))) := block_alloc (heap_alloc_new _ _) _
 have HY0 : Hid (((w.alloc (.cells #[.int .i64 l.kd, .int .u8 l.hs.x0, .int .u8 l.hs.x1, .int .u8 l.hs.x2, .int .u8 l.hs.x3, .int .u8 l.hs.x4, .int .u8 l.hs.x5, .int .u8 l.hs.x6, .int .u8 l.hs.x7, .slice A 2 c, .int .i64 l.st, .int .i64 l.cp, .int .i64 l.un] 40)).alloc (.cells #[.int .u8 0, .int .u8 0, .int .u8 0, .int .u8 0, .int .u8 0, .int .u8 0, .int .u8 0, .int .u8 0, .slice Ap np cp, .slice As ns cs] 136)).heap[w.heap.size + 1]? = some (.cells #[.int .u8 0, .int .u8 0, .int .u8 0, .int .u8 0, .int .u8 0, .int .u8 0, .int .u8 0, .int .u8 0, .slice Ap np cp, .slice As ns cs] 136 (0, 0))) := alloc_at (by simp)
 have Hb0 : Hid (Below w.heap.size w ((w.alloc (.cells #[.int .i64 l.kd, .int .u8 l.hs.x0, .int .u8 l.hs.x1, .int .u8 l.hs.x2, .int .u8 l.hs.x3, .int .u8 l.hs.x4, .int .u8 l.hs.x5, .int .u8 l.hs.x6, .int .u8 l.hs.x7, .slice A 2 c, .int .i64 l.st, .int .i64 l.cp, .int .i64 l.un] 40)).alloc (.cells #[.int .u8 0, .int .u8 0, .int .u8 0, .int .u8 0, .int .u8 0, .int .u8 0, .int .u8 0, .int .u8 0, .slice Ap np cp, .slice As ns cs] 136))) := below_two _ _ _
 have Hz0 : Hid (((w.alloc (.cells #[.int .i64 l.kd, .int .u8 l.hs.x0, .int .u8 l.hs.x1, .int .u8 l.hs.x2, .int .u8 l.hs.x3, .int .u8 l.hs.x4, .int .u8 l.hs.x5, .int .u8 l.hs.x6, .int .u8 l.hs.x7, .slice A 2 c, .int .i64 l.st, .int .i64 l.cp, .int .i64 l.un] 40)).alloc (.cells #[.int .u8 0, .int .u8 0, .int .u8 0, .int .u8 0, .int .u8 0, .int .u8 0, .int .u8 0, .int .u8 0, .slice Ap np cp, .slice As ns cs] 136)).heap.size = w.heap.size + 2) := by show _ = _; simp
 have H := Lib.hid h; have HL := Lib.hid hl; have HK := Lib.hid hk; have HKo := Lib.hid hko; have HH := Lib.hid hh; have HP := Lib.hid hp; have HS := Lib.hid hs; have HSo := Lib.hid hso
 have Hopen : Hid (l.open_ L now o = if l.un < now then (0, 19) else l.byOut L o) := by show _ = _; unfold Lk.open_; rw [if_neg (by rw [hl.check]; simp)]
 have HKd := Lib.hid hl.k
 clear h hl hk hko hh hp hs hso
 go_enter Tryz.func82, Tryz.ntmps82
 go_upto_region 1 with fail
 generalize (w.alloc (.cells #[.int .i64 l.kd, .int .u8 l.hs.x0, .int .u8 l.hs.x1, .int .u8 l.hs.x2, .int .u8 l.hs.x3, .int .u8 l.hs.x4, .int .u8 l.hs.x5, .int .u8 l.hs.x6, .int .u8 l.hs.x7, .slice A 2 c, .int .i64 l.st, .int .i64 l.cp, .int .i64 l.un] 40)).alloc (.cells #[.int .u8 0, .int .u8 0, .int .u8 0, .int .u8 0, .int .u8 0, .int .u8 0, .int .u8 0, .int .u8 0, .slice Ap np cp, .slice As ns cs] 136) = w0 at *
 refine wp_region_list ?_
 refine wpList_load_mid (by rfl) 40 _ (by rfl) w.heap.size 0 (by rfl) [.int .i64 l.kd, .int .u8 l.hs.x0, .int .u8 l.hs.x1, .int .u8 l.hs.x2, .int .u8 l.hs.x3, .int .u8 l.hs.x4, .int .u8 l.hs.x5, .int .u8 l.hs.x6, .int .u8 l.hs.x7, .slice A 2 c, .int .i64 l.st, .int .i64 l.cp, .int .i64 l.un] _ (range_all HX0.out) Tryz.underlying40 rfl (by kernel_rfl) ?_
 simp only [Act.put, sT]
 go_wp2_with fail
 refine (lkcheck_good l A c w0 HL.out).mono ?_
 rintro e w1 ⟨rfl, hb1⟩
 have HX1 := Lib.hid (block_below HX0.out hb1 (block_lt HX0.out)); have HY1 := Lib.hid (block_below HY0.out hb1 (block_lt HY0.out)); have Hb1 := Lib.hid (Hb0.out.trans (hb1.mono Hb0.out.size))
 have hlx := block_lt HX1.out; have hly := block_lt HY1.out
 clear hb1
 have r12 := block_cell HX1.out 12
 simp at r12
 by_cases hn : l.un < now
 ·have b1 : decide (l.un < now) = true := decide_eq_true hn
  have Hr : Hid (l.open_ L now o = (0, 19)) := by show _ = _; rw [Hopen.out, if_pos hn]
  clear hn
  go_wp2
  go_ret2
  exact ⟨by rw [Hr.out]; rfl, Hb1.out⟩
 ·have b1 : decide (l.un < now) = false := decide_eq_false hn
  have Hr : Hid (l.open_ L now o = l.byOut L o) := by show _ = _; rw [Hopen.out, if_neg hn]
  clear hn
  go_upto_region 6 with fail
  refine wp_region_held_drew (S := fun w' => Below w1.heap.size w1 w') (by kernel_rfl) (Below.refl _ _).drew (fun hHeld => ?_)
  have c0 : ∀ w', Below w1.heap.size w1 w' → w'.cell? ⟨w.heap.size, 0, none⟩ = some (.int .i64 1) := fun w' hw' => by have := block_cell (block_below HX1.out hw' hlx) 0; rw [HKd.out] at this; simpa using this
  refine takP 1 21 ?_ rfl (by kernel_rfl) (fun _ _ _ => id) ?hy (by assumption) ?_
  case hy => intro w' h; clear h; go_simp; try with_reducible rfl
  simp only [Act.put, sT]
  refine takP 2 22 ?_ rfl (by kernel_rfl) (fun _ _ _ => id) ?hy (by assumption) ?_
  case hy => intro w' h; have hx := c0 w' h; clear h; go_simp; try with_reducible rfl
  simp only [Act.put, sT]
  refine takeK 4 (some 24) (v := .agg ([.int .i64 l.kd, .int .u8 l.hs.x0, .int .u8 l.hs.x1, .int .u8 l.hs.x2, .int .u8 l.hs.x3, .int .u8 l.hs.x4, .int .u8 l.hs.x5, .int .u8 l.hs.x6, .int .u8 l.hs.x7, .slice A 2 c, .int .i64 l.st, .int .i64 l.cp, .int .i64 l.un] : List Value).toArray) rfl (by kernel_rfl) (by kernel_rfl) (fun _ _ _ => id) (yieldsIf_load_mid (by kernel_rfl) 40 _ (by rfl) (w.heap.size) (0) (by rfl) [.int .i64 l.kd, .int .u8 l.hs.x0, .int .u8 l.hs.x1, .int .u8 l.hs.x2, .int .u8 l.hs.x3, .int .u8 l.hs.x4, .int .u8 l.hs.x5, .int .u8 l.hs.x6, .int .u8 l.hs.x7, .slice A 2 c, .int .i64 l.st, .int .i64 l.cp, .int .i64 l.un] _ (fun w' hw' => range_all (block_below HX1.out hw' hlx)) Tryz.underlying40 rfl (by kernel_rfl)) (by assumption) ?_
  simp only [Act.put, sT]
  refine takP 5 25 ?_ rfl (by kernel_rfl) (fun _ _ _ => id) ?hy (by assumption) ?_
  case hy => intro w' h; clear h; go_simp; try with_reducible rfl
  simp only [Act.put, sT]
  refine takeK 6 (some 26) (v := .agg ([.int .u8 0, .int .u8 0, .int .u8 0, .int .u8 0, .int .u8 0, .int .u8 0, .int .u8 0, .int .u8 0, .slice Ap np cp, .slice As ns cs] : List Value).toArray) rfl (by kernel_rfl) (by kernel_rfl) (fun _ _ _ => id) (yieldsIf_load_mid (by kernel_rfl) 136 _ (by rfl) (w.heap.size + 1) (0) (by rfl) [.int .u8 0, .int .u8 0, .int .u8 0, .int .u8 0, .int .u8 0, .int .u8 0, .int .u8 0, .int .u8 0, .slice Ap np cp, .slice As ns cs] _ (fun w' hw' => range_all (block_below HY1.out hw' hly)) Tryz.underlying136 rfl (by kernel_rfl)) (by assumption) ?_
  simp only [Act.put, sT]
  refine wpAnyH_ready (rs := [0]) (by kernel_rfl) (by simp) ?_
  refine AllReadyH.cons rfl (fun K hK => ?_) AllReadyH.nil
  rw [if_pos (by kernel_rfl)]
  try simp only [List.getElem_toArray]
  try simp only [List.getElem_cons_succ]
  try simp only [List.getElem_cons_zero]
  go_simp
  go_at_call 139
  refine (openers_any w1.drew).mono ?_
  rintro e w2 ⟨rfl, hm2, hb2⟩
  have HB2 := Lib.hid ((Below.refl w1.heap.size w1).drew.trans hb2)
  have hlk : (Instr.lookup 192 (.map (some w1.heap.size)) (.int .i64 1) false).run Tryz.prog w2 = .ok (.func (.func 166) #[] #[]) w2 := by
   have := look_mapG keysI hm2 (by simp [opL]) (by simp [opL]) 1 (by omega) (z := .nilFunc) (by kernel_rfl)
   rw [show alGet Value.nilFunc opL 1 = .func (.func 166) #[] #[] from by simp [alGet, opL]] at this
   exact this
  clear hm2 hb2
  refine hK.out _ _ HB2.out (fun _ => ?_)
  clear hK K
  try simp only [Act.put, sT]
  refine wpAnyH_ready (rs := [3]) (by kernel_rfl) (by simp) ?_
  refine AllReadyH.cons rfl (fun K hK => ?_) AllReadyH.nil
  rw [if_pos (by kernel_rfl)]
  try simp only [List.getElem_toArray]
  try simp only [List.getElem_cons_succ]
  try simp only [List.getElem_cons_zero]
  go_simp
  refine hK.out _ _ HB2.out (fun _ => ?_)
  clear hK K
  try simp only [Act.put, sT]
  refine wpAnyH_ready (rs := [7]) (by kernel_rfl) (by simp) ?_
  refine AllReadyH.cons rfl (fun K hK => ?_) AllReadyH.nil
  rw [if_pos (by kernel_rfl)]
  try simp only [List.getElem_toArray]
  try simp only [List.getElem_cons_succ]
  try simp only [List.getElem_cons_zero]
  go_simp
  go_at_call 166
  have Hb2 := Lib.hid (Hb1.out.trans (HB2.out.mono Hb1.out.size))
  refine (byout_any B bk mb L l A c o Ap np cp As ns cs w2 (H.out.below Hb2.out) hlen HL.out ((HK.out.below Hb2.out (Nat.le_refl _)).more Hb2.out.size) HKo.out HH.out ((HP.out.below Hb2.out (Nat.le_refl _)).more Hb2.out.size) ((HS.out.below Hb2.out (Nat.le_refl _)).more Hb2.out.size) HSo.out hnp).mono ?_
  rintro e w3 ⟨rfl, hb3⟩
  have HB3 := Lib.hid (HB2.out.trans (hb3.mono HB2.out.size))
  have Hb3 := Lib.hid (Hb2.out.trans (hb3.mono Hb2.out.size))
  clear hb3
  generalize hx1 : l.byOut L o = x at *
  have Hx1 := Lib.hid hx1
  clear hx1
  refine hK.out _ _ HB3.out (fun _ => ?_)
  clear hK K
  try simp only [Act.put, sT]
  refine takP 8 28 ?_ rfl (by kernel_rfl) (fun _ _ _ => id) ?hy (by assumption) ?_
  case hy => intro w' h; clear h; go_simp; try with_reducible rfl
  simp only [Act.put, sT]
  refine takP 9 29 ?_ rfl (by kernel_rfl) (fun _ _ _ => id) ?hy (by assumption) ?_
  case hy => intro w' h; clear h; go_simp; try with_reducible rfl
  simp only [Act.put, sT]
  refine takP 10 8 ?_ rfl (by kernel_rfl) (fun _ _ _ => id) ?hy (by assumption) ?_
  case hy => intro w' h; clear h; go_simp; try with_reducible rfl
  simp only [Act.put, sT]
  refine takP 11 9 ?_ rfl (by kernel_rfl) (fun _ _ _ => id) ?hy (by assumption) ?_
  case hy => intro w' h; clear h; go_simp; try with_reducible rfl
  simp only [Act.put, sT]
  refine wpAnyH_done (by kernel_rfl) ?_ _
  go_wp2
  go_ret2
  exact ⟨by rw [Hr.out]; rfl, Hb3.out⟩
set_option maxRecDepth 100000 in
set_option maxHeartbeats 2000000 in
theorem copied_any (p : Pu) (A : Option Addr) (n c : Nat) (w : World) (h : PuV.At p A n c w) :
  Calls Tryz.prog 95 #[.agg #[.int .u8 p.nm.x0, .int .u8 p.nm.x1, .int .u8 p.nm.x2, .int .u8 p.nm.x3, .int .u8 p.nm.x4, .int .u8 p.nm.x5, .int .u8 p.nm.x6, .int .u8 p.nm.x7, .int .i64 p.no, .int .i64 p.h0, .int .i64 p.h1, .slice A n c]] w (GivesPu 120 p w) := by
 have HT0 := Lib.hid (block_alloc (heap_alloc_new w (.cells #[.int .u8 p.nm.x0, .int .u8 p.nm.x1, .int .u8 p.nm.x2, .int .u8 p.nm.x3, .int .u8 p.nm.x4, .int .u8 p.nm.x5, .int .u8 p.nm.x6, .int .u8 p.nm.x7, .int .i64 p.no, .int .i64 p.h0, .int .i64 p.h1, .slice A n c] 85)) (.cells #[.int .u8 0, .int .u8 0, .int .u8 0, .int .u8 0, .int .u8 0, .int .u8 0, .int .u8 0, .int .u8 0, .int .i64 0, .int .i64 0, .int .i64 0, .slice none 0 0] 85))
 have HT1 : Hid (((w.alloc (.cells #[.int .u8 p.nm.x0, .int .u8 p.nm.x1, .int .u8 p.nm.x2, .int .u8 p.nm.x3, .int .u8 p.nm.x4, .int .u8 p.nm.x5, .int .u8 p.nm.x6, .int .u8 p.nm.x7, .int .i64 p.no, .int .i64 p.h0, .int .i64 p.h1, .slice A n c] 85)).alloc (.cells #[.int .u8 0, .int .u8 0, .int .u8 0, .int .u8 0, .int .u8 0, .int .u8 0, .int .u8 0, .int .u8 0, .int .i64 0, .int .i64 0, .int .i64 0, .slice none 0 0] 85)).heap[w.heap.size + 1]? = some (.cells #[.int .u8 0, .int .u8 0, .int .u8 0, .int .u8 0, .int .u8 0, .int .u8 0, .int .u8 0, .int .u8 0, .int .i64 0, .int .i64 0, .int .i64 0, .slice none 0 0] 85 (0, 0))) := alloc_at (by simp)
 have Hw := Lib.hid (below_two w (.cells #[.int .u8 p.nm.x0, .int .u8 p.nm.x1, .int .u8 p.nm.x2, .int .u8 p.nm.x3, .int .u8 p.nm.x4, .int .u8 p.nm.x5, .int .u8 p.nm.x6, .int .u8 p.nm.x7, .int .i64 p.no, .int .i64 p.h0, .int .i64 p.h1, .slice A n c] 85) (.cells #[.int .u8 0, .int .u8 0, .int .u8 0, .int .u8 0, .int .u8 0, .int .u8 0, .int .u8 0, .int .u8 0, .int .i64 0, .int .i64 0, .int .i64 0, .slice none 0 0] 85))
 have Hr1 := Lib.hid (h.rd.up Hw.out (Nat.le_refl _))
 have Hm := Lib.hid h.small
 have Hz : Hid (((w.alloc (.cells #[.int .u8 p.nm.x0, .int .u8 p.nm.x1, .int .u8 p.nm.x2, .int .u8 p.nm.x3, .int .u8 p.nm.x4, .int .u8 p.nm.x5, .int .u8 p.nm.x6, .int .u8 p.nm.x7, .int .i64 p.no, .int .i64 p.h0, .int .i64 p.h1, .slice A n c] 85)).alloc (.cells #[.int .u8 0, .int .u8 0, .int .u8 0, .int .u8 0, .int .u8 0, .int .u8 0, .int .u8 0, .int .u8 0, .int .i64 0, .int .i64 0, .int .i64 0, .slice none 0 0] 85)).heap.size = w.heap.size + 2) := by show _ = _; simp
 clear h
 go_enter Tryz.func95, Tryz.ntmps95
 go_wp2_with fail
 refine (sclone_any A n c p.held _ Hr1.out Hm.out).mono ?_
 rintro e w1 ⟨A1, n1, c1, rfl, ho1, hn1, hb1⟩
 generalize ((w.alloc (.cells #[.int .u8 p.nm.x0, .int .u8 p.nm.x1, .int .u8 p.nm.x2, .int .u8 p.nm.x3, .int .u8 p.nm.x4, .int .u8 p.nm.x5, .int .u8 p.nm.x6, .int .u8 p.nm.x7, .int .i64 p.no, .int .i64 p.h0, .int .i64 p.h1, .slice A n c] 85)).alloc (.cells #[.int .u8 0, .int .u8 0, .int .u8 0, .int .u8 0, .int .u8 0, .int .u8 0, .int .u8 0, .int .u8 0, .int .i64 0, .int .i64 0, .int .i64 0, .slice none 0 0] 85)) = w0 at *
 have T0 := block_below HT0.out hb1 (by rw [Hz.out]; omega)
 have T1 := block_below HT1.out hb1 (by rw [Hz.out]; omega)
 have Hw1 := Lib.hid (Hw.out.trans (hb1.mono Hw.out.size))
 rw [Hz.out] at ho1
 have Ho1 := Lib.hid ho1
 have y := block_cell T0
 have y0 := y 0; have y1 := y 1; have y2 := y 2; have y3 := y 3; have y4 := y 4; have y5 := y 5; have y6 := y 6; have y7 := y 7; have y8 := y 8; have y9 := y 9; have y10 := y 10; have y11 := y 11
 have yf := block_free T0
 have z := block_cell T1
 have z0 := z 0; have z1 := z 1; have z2 := z 2; have z3 := z 3; have z4 := z 4; have z5 := z 5; have z6 := z 6; have z7 := z 7; have z8 := z 8; have z9 := z 9; have z10 := z 10; have z11 := z 11
 have zf := block_free T1
 simp at y0 y1 y2 y3 y4 y5 y6 y7 y8 y9 y10 y11 z0 z1 z2 z3 z4 z5 z6 z7 z8 z9 z10 z11
 clear y z T0 T1 hb1 ho1 hn1
 go_wp2
 refine bodyPost_ret (v := .agg #[.int .u8 p.nm.x0, .int .u8 p.nm.x1, .int .u8 p.nm.x2, .int .u8 p.nm.x3, .int .u8 p.nm.x4, .int .u8 p.nm.x5, .int .u8 p.nm.x6, .int .u8 p.nm.x7, .int .i64 p.no, .int .i64 p.h0, .int .i64 p.h1, .slice A1 n1 c1]) (by simp [results, Tryz.results95, go_sem, z0, z1, z2, z3, z4, z5, z6, z7, z8, z9, z10, z11]) rfl ⟨A1, n1, c1, rfl, ?_, ?_⟩
 ·refine pown_down (base := w.heap.size + 2) ?_ (by omega)
  repeat refine ownsRow_setCell_below ?_ (by first | (show w.heap.size < _; omega) | (show w.heap.size + 1 < _; omega)) _
  exact Ho1.out
 ·repeat refine Below.setCell ?_ (by first | (show w.heap.size ≤ w.heap.size; omega) | (show w.heap.size ≤ w.heap.size + 1; omega)) _
  exact Hw1.out
theorem info_u8V : (Tryz.prog.info? 5).map (fun i => (i.zero, i.size, i.bytes)) = some (some (.int .u8 0), 1, 1) := by kernel_rfl
set_option maxRecDepth 100000 in
set_option maxHeartbeats 2000000 in
theorem byclone_any (L : List Value) (hL1 : ∀ u ∈ L, u.oneCell' = true) (A : Option Addr) (n c : Nat) (w : World) (hr : Rd w w.heap.size 1 A n L) (hn : n ≤ 1000000) :
  Calls Tryz.prog 123 #[.slice A n c] w fun r w' => ∃ A' c', r = .returned (.slice A' n c') ∧ w'.ownsRow w.heap.size 5 1 (.slice A' n c') n L ∧ Below w.heap.size w w' := by
 cases A with
 | none =>
  have h0 : n = 0 := by
   rcases Nat.eq_zero_or_pos n with h0 | h0
   ·exact h0
   ·obtain ⟨_, _, h2, _⟩ := hr.2 h0
    cases h2
  subst h0
  have hL : L = [] := List.eq_nil_of_length_eq_zero (by have := hr.1; omega)
  rw [hL]
  clear hr
  have heq : ∀ w : World, (binOp .eql 46 (.slice none 0 c) (.slice none 0 0)).run Tryz.prog w = .ok (.bool true) w := fun w => run_eql_slice_nil w _ _ none 0 c 0 0 Tryz.underlying46
  go_enter Tryz.func123, Tryz.ntmps123
  go_wp2
  go_ret
  exact ⟨none, 0, rfl, World.ownsRow_nil _ _ _ _, Below.refl _ _⟩
 | some a =>
  obtain ⟨i0, hi, hz0, hz1, hz2⟩ := info_parts info_u8V
  have HI := Lib.hid (And.intro hi (And.intro hz0 (And.intro hz1 hz2))); clear hi hz0 hz1 hz2
  have HO : Hid ((w.alloc (.cells #[] 5)).ownsRow w.heap.size 5 1 (.slice (some ⟨w.heap.size, 0, none⟩) 0 0) 0 []) := own_emptyD w _ _ _ (Nat.le_refl _)
  have Hr := Lib.hid ((hr.alloc (Nat.le_refl _) (.cells #[] 5)).more (B' := (w.alloc (.cells #[] 5)).heap.size) (by simp))
  have Hu := Lib.hid Tryz.underlying46
  have heq : ∀ w : World, (binOp .eql 46 (.slice (some a) n c) (.slice none 0 0)).run Tryz.prog w = .ok (.bool false) w := fun w => run_eql_slice_nil w _ _ (some a) n c 0 0 Tryz.underlying46
  clear hr
  go_enter Tryz.func123, Tryz.ntmps123
  go_wp2_with (at_builtin; go_must (refine wpList_append_rd (w.alloc (.cells #[] 5)) (by rfl) _ _ 46 (by rfl) w.heap.size 5 i0 (.int .u8 0) 1 1 Hu.out HI.out rfl (by decide) _ _ _ (by rfl) HO.out (w.alloc (.cells #[] 5)).heap.size (some a) n c _ (by rfl) Hr.out hL1 (by omega) (by omega) (by simp) ?_); intro v4 w4 ho4 hb4; obtain ⟨A4, c4, rfl⟩ := own_form ho4; simp only [Nat.zero_add, List.nil_append] at ho4; have HO4 := Lib.hid ho4; have Hb4 := Lib.hid ((h_one w (.cells #[] 5)).trans (hb4.mono (Nat.le_refl _))); clear ho4 hb4)
  go_ret
  exact ⟨A4, c4, by simp, HO4.out, Hb4.out⟩
def GivesPn (p : Pl) (w : World) (e : Ending) (w' : World) : Prop :=
 ∃ Ak nk ck An nn cn Af nf cf, e = .returned (.agg #[.int .u8 p.tb.x0, .int .u8 p.tb.x1, .int .u8 p.tb.x2, .int .u8 p.tb.x3, .int .u8 p.tb.x4, .int .u8 p.tb.x5, .int .u8 p.tb.x6, .int .u8 p.tb.x7, .slice Ak nk ck, .int .i64 p.s0, .int .i64 p.s1, .slice An nn cn, .slice Af nf cf]) ∧ p.Own w.heap.size Ak nk ck An nn cn Af nf cf w' ∧ Below w.heap.size w w'
set_option maxRecDepth 100000 in
set_option maxHeartbeats 4000000 in
theorem plclone_any (p : Pl) (Ak : Option Addr) (nk ck : Nat) (An : Option Addr) (nn cn : Nat) (Af : Option Addr) (nf cf : Nat) (w : World) (h : p.At Ak nk ck An nn Af nf w) :
  Calls Tryz.prog 111 #[.agg #[.int .u8 p.tb.x0, .int .u8 p.tb.x1, .int .u8 p.tb.x2, .int .u8 p.tb.x3, .int .u8 p.tb.x4, .int .u8 p.tb.x5, .int .u8 p.tb.x6, .int .u8 p.tb.x7, .slice Ak nk ck, .int .i64 p.s0, .int .i64 p.s1, .slice An nn cn, .slice Af nf cf]] w (GivesPn p w) := by
 have HX0 : Hid (((w.alloc (.cells #[.int .u8 p.tb.x0, .int .u8 p.tb.x1, .int .u8 p.tb.x2, .int .u8 p.tb.x3, .int .u8 p.tb.x4, .int .u8 p.tb.x5, .int .u8 p.tb.x6, .int .u8 p.tb.x7, .slice Ak nk ck, .int .i64 p.s0, .int .i64 p.s1, .slice An nn cn, .slice Af nf cf] 32)).alloc (.cells #[.int .u8 0, .int .u8 0, .int .u8 0, .int .u8 0, .int .u8 0, .int .u8 0, .int .u8 0, .int .u8 0, .slice none 0 0, .int .i64 0, .int .i64 0, .slice none 0 0, .slice none 0 0] 32)).heap[w.heap.size]? = some (.cells #[.int .u8 p.tb.x0, .int .u8 p.tb.x1, .int .u8 p.tb.x2, .int .u8 p.tb.x3, .int .u8 p.tb.x4, .int .u8 p.tb.x5, .int .u8 p.tb.x6, .int .u8 p.tb.x7, .slice Ak nk ck, .int .i64 p.s0, .int .i64 p.s1, .slice An nn cn, .slice Af nf cf] 32 (0, 0))) := block_alloc (heap_alloc_new _ _) _
 have HY0 : Hid (((w.alloc (.cells #[.int .u8 p.tb.x0, .int .u8 p.tb.x1, .int .u8 p.tb.x2, .int .u8 p.tb.x3, .int .u8 p.tb.x4, .int .u8 p.tb.x5, .int .u8 p.tb.x6, .int .u8 p.tb.x7, .slice Ak nk ck, .int .i64 p.s0, .int .i64 p.s1, .slice An nn cn, .slice Af nf cf] 32)).alloc (.cells #[.int .u8 0, .int .u8 0, .int .u8 0, .int .u8 0, .int .u8 0, .int .u8 0, .int .u8 0, .int .u8 0, .slice none 0 0, .int .i64 0, .int .i64 0, .slice none 0 0, .slice none 0 0] 32)).heap[w.heap.size + 1]? = some (.cells #[.int .u8 0, .int .u8 0, .int .u8 0, .int .u8 0, .int .u8 0, .int .u8 0, .int .u8 0, .int .u8 0, .slice none 0 0, .int .i64 0, .int .i64 0, .slice none 0 0, .slice none 0 0] 32 (0, 0))) := alloc_at (by simp)
 have Hb0 : Hid (Below w.heap.size w ((w.alloc (.cells #[.int .u8 p.tb.x0, .int .u8 p.tb.x1, .int .u8 p.tb.x2, .int .u8 p.tb.x3, .int .u8 p.tb.x4, .int .u8 p.tb.x5, .int .u8 p.tb.x6, .int .u8 p.tb.x7, .slice Ak nk ck, .int .i64 p.s0, .int .i64 p.s1, .slice An nn cn, .slice Af nf cf] 32)).alloc (.cells #[.int .u8 0, .int .u8 0, .int .u8 0, .int .u8 0, .int .u8 0, .int .u8 0, .int .u8 0, .int .u8 0, .slice none 0 0, .int .i64 0, .int .i64 0, .slice none 0 0, .slice none 0 0] 32))) := below_two _ _ _
 have Hz0 : Hid (((w.alloc (.cells #[.int .u8 p.tb.x0, .int .u8 p.tb.x1, .int .u8 p.tb.x2, .int .u8 p.tb.x3, .int .u8 p.tb.x4, .int .u8 p.tb.x5, .int .u8 p.tb.x6, .int .u8 p.tb.x7, .slice Ak nk ck, .int .i64 p.s0, .int .i64 p.s1, .slice An nn cn, .slice Af nf cf] 32)).alloc (.cells #[.int .u8 0, .int .u8 0, .int .u8 0, .int .u8 0, .int .u8 0, .int .u8 0, .int .u8 0, .int .u8 0, .slice none 0 0, .int .i64 0, .int .i64 0, .slice none 0 0, .slice none 0 0] 32)).heap.size = w.heap.size + 2) := by show _ = _; simp
 have H := Lib.hid h
 have hbk := h.bk; have hbn := h.bn; have hbf := h.bf
 clear h
 go_enter Tryz.func111, Tryz.ntmps111
 go_wp2_with fail
 generalize (w.alloc (.cells #[.int .u8 p.tb.x0, .int .u8 p.tb.x1, .int .u8 p.tb.x2, .int .u8 p.tb.x3, .int .u8 p.tb.x4, .int .u8 p.tb.x5, .int .u8 p.tb.x6, .int .u8 p.tb.x7, .slice Ak nk ck, .int .i64 p.s0, .int .i64 p.s1, .slice An nn cn, .slice Af nf cf] 32)).alloc (.cells #[.int .u8 0, .int .u8 0, .int .u8 0, .int .u8 0, .int .u8 0, .int .u8 0, .int .u8 0, .int .u8 0, .slice none 0 0, .int .i64 0, .int .i64 0, .slice none 0 0, .slice none 0 0] 32) = w0 at *
 have HU0 := Lib.hid (H.out.up Hb0.out)
 refine (sdclone_any p.ks Ak nk ck w0 HU0.out.k hbk).mono ?_
 rintro e w1 ⟨A1, c1, rfl, ho1, hb1⟩
 have HX1 := Lib.hid (block_below HX0.out hb1 (block_lt HX0.out)); have HY1 := Lib.hid (block_below HY0.out hb1 (block_lt HY0.out)); have Hb1 := Lib.hid (Hb0.out.trans (hb1.mono Hb0.out.size))
 have HO1 := Lib.hid ho1
 have hz1 := hb1.size
 clear ho1 hb1
 have r := block_cell HX1.out
 have r0 := r 0; have r1 := r 1; have r2 := r 2; have r3 := r 3; have r4 := r 4; have r5 := r 5; have r6 := r 6; have r7 := r 7; have r8 := r 8; have r9 := r 9; have r10 := r 10; have r11 := r 11; have r12 := r 12
 simp at r0 r1 r2 r3 r4 r5 r6 r7 r8 r9 r10 r11 r12
 clear r
 have rf := block_free HX1.out
 have h2 := Joins.block_setCell (i := 8) HX1.out (.slice A1 nk c1)
 have g2 := pgrown_set (w := w1) w.heap.size 8 (.slice A1 nk c1)
 simp at h2
 have HX2 := Lib.hid h2
 have HY2 := Lib.hid (block_grown HY1.out g2 (by simp))
 have Hb2 := Lib.hid (Hb1.out.grown g2 Hb1.out.size (fun k hk => by cases hk; exact Nat.le_refl _))
 have HO2 := Lib.hid (HO1.out.kept g2 (.inr fun e => own_ne HO1.out HX1.out (by decide) e.symm))
 clear h2 g2
 go_upto_region 2 with fail
 generalize w1.setCell ⟨w.heap.size, 8, none⟩ (.slice A1 nk c1) = w2 at *
 clear r0 r1 r2 r3 r4 r5 r6 r7 r8 r9 r10 r11 r12 rf
 have r := block_cell HX2.out
 have r0 := r 0; have r1 := r 1; have r2 := r 2; have r3 := r 3; have r4 := r 4; have r5 := r 5; have r6 := r 6; have r7 := r 7; have r8 := r 8; have r9 := r 9; have r10 := r 10; have r11 := r 11; have r12 := r 12
 simp at r0 r1 r2 r3 r4 r5 r6 r7 r8 r9 r10 r11 r12
 clear r
 go_wp2_with fail
 refine (iclone_any (ivs p.nr) (ivs_one _) An nn cn w2 ((H.out.n.below Hb2.out (Nat.le_refl _)).more Hb2.out.size) hbn).mono ?_
 rintro e w3 ⟨A3, c3, rfl, ho3, hb3⟩
 have HX3 := Lib.hid (block_below HX2.out hb3 (block_lt HX2.out)); have HY3 := Lib.hid (block_below HY2.out hb3 (block_lt HY2.out)); have Hb3 := Lib.hid (Hb2.out.trans (hb3.mono Hb2.out.size))
 have HO3 := Lib.hid (own_below HO2.out hb3); have HN3 := Lib.hid ho3
 clear ho3 hb3 r0 r1 r2 r3 r4 r5 r6 r7 r8 r9 r10 r11 r12
 have r := block_cell HX3.out
 have r0 := r 0; have r1 := r 1; have r2 := r 2; have r3 := r 3; have r4 := r 4; have r5 := r 5; have r6 := r 6; have r7 := r 7; have r8 := r 8; have r9 := r 9; have r10 := r 10; have r11 := r 11; have r12 := r 12
 simp at r0 r1 r2 r3 r4 r5 r6 r7 r8 r9 r10 r11 r12
 clear r
 have rf := block_free HX3.out
 have h4 := Joins.block_setCell (i := 11) HX3.out (.slice A3 nn c3)
 have g4 := pgrown_set (w := w3) w.heap.size 11 (.slice A3 nn c3)
 simp at h4
 have HX4 := Lib.hid h4
 have HY4 := Lib.hid (block_grown HY3.out g4 (by simp))
 have Hb4 := Lib.hid (Hb3.out.grown g4 Hb3.out.size (fun k hk => by cases hk; exact Nat.le_refl _))
 have HO4 := Lib.hid (HO3.out.kept g4 (.inr fun e => own_ne HO3.out HX3.out (by decide) e.symm))
 have HN4 := Lib.hid (HN3.out.kept g4 (.inr fun e => own_ne HN3.out HX3.out (by decide) e.symm))
 clear h4 g4
 go_upto_region 3 with fail
 generalize w3.setCell ⟨w.heap.size, 11, none⟩ (.slice A3 nn c3) = w4 at *
 clear r0 r1 r2 r3 r4 r5 r6 r7 r8 r9 r10 r11 r12 rf
 have r := block_cell HX4.out
 have r0 := r 0; have r1 := r 1; have r2 := r 2; have r3 := r 3; have r4 := r 4; have r5 := r 5; have r6 := r 6; have r7 := r 7; have r8 := r 8; have r9 := r 9; have r10 := r 10; have r11 := r 11; have r12 := r 12
 simp at r0 r1 r2 r3 r4 r5 r6 r7 r8 r9 r10 r11 r12
 clear r
 go_wp2_with fail
 refine (iclone_any (ivs p.fr) (ivs_one _) Af nf cf w4 ((H.out.f.below Hb4.out (Nat.le_refl _)).more Hb4.out.size) hbf).mono ?_
 rintro e w5 ⟨A5, c5, rfl, ho5, hb5⟩
 have HX5 := Lib.hid (block_below HX4.out hb5 (block_lt HX4.out)); have HY5 := Lib.hid (block_below HY4.out hb5 (block_lt HY4.out)); have Hb5 := Lib.hid (Hb4.out.trans (hb5.mono Hb4.out.size))
 have HO5 := Lib.hid (own_below HO4.out hb5); have HN5 := Lib.hid (own_below HN4.out hb5); have HF5 := Lib.hid ho5
 clear ho5 hb5 r0 r1 r2 r3 r4 r5 r6 r7 r8 r9 r10 r11 r12
 have r := block_cell HX5.out
 have r0 := r 0; have r1 := r 1; have r2 := r 2; have r3 := r 3; have r4 := r 4; have r5 := r 5; have r6 := r 6; have r7 := r 7; have r8 := r 8; have r9 := r 9; have r10 := r 10; have r11 := r 11; have r12 := r 12
 simp at r0 r1 r2 r3 r4 r5 r6 r7 r8 r9 r10 r11 r12
 clear r
 have rf := block_free HX5.out
 have h6 := Joins.block_setCell (i := 12) HX5.out (.slice A5 nf c5)
 have g6 := pgrown_set (w := w5) w.heap.size 12 (.slice A5 nf c5)
 simp at h6
 have HX6 := Lib.hid h6
 have HY6 := Lib.hid (block_grown HY5.out g6 (by simp))
 have Hb6 := Lib.hid (Hb5.out.grown g6 Hb5.out.size (fun k hk => by cases hk; exact Nat.le_refl _))
 have HO6 := Lib.hid (HO5.out.kept g6 (.inr fun e => own_ne HO5.out HX5.out (by decide) e.symm))
 have HN6 := Lib.hid (HN5.out.kept g6 (.inr fun e => own_ne HN5.out HX5.out (by decide) e.symm))
 have HF6 := Lib.hid (HF5.out.kept g6 (.inr fun e => own_ne HF5.out HX5.out (by decide) e.symm))
 clear h6 g6
 go_upto_region 4 with fail
 generalize w5.setCell ⟨w.heap.size, 12, none⟩ (.slice A5 nf c5) = w6 at *
 clear r0 r1 r2 r3 r4 r5 r6 r7 r8 r9 r10 r11 r12 rf
 refine wp_region_list ?_
 refine wpList_load_mid (by rfl) 32 _ (by rfl) w.heap.size 0 (by rfl) [.int .u8 p.tb.x0, .int .u8 p.tb.x1, .int .u8 p.tb.x2, .int .u8 p.tb.x3, .int .u8 p.tb.x4, .int .u8 p.tb.x5, .int .u8 p.tb.x6, .int .u8 p.tb.x7, .slice A1 nk c1, .int .i64 p.s0, .int .i64 p.s1, .slice A3 nn c3, .slice A5 nf c5] _ (range_all HX6.out) Tryz.underlying32 rfl (by kernel_rfl) ?_
 simp only [Act.put, sT]
 refine wpList_store_mid (by rfl) 32 _ _ (by rfl) (w.heap.size + 1) 0 #[.int .u8 p.tb.x0, .int .u8 p.tb.x1, .int .u8 p.tb.x2, .int .u8 p.tb.x3, .int .u8 p.tb.x4, .int .u8 p.tb.x5, .int .u8 p.tb.x6, .int .u8 p.tb.x7, .slice A1 nk c1, .int .i64 p.s0, .int .i64 p.s1, .slice A3 nn c3, .slice A5 nf c5] (by rfl) (by rfl) (there_mid HY6.out (by simp)) (by kernel_rfl) (by kernel_rfl) ?_
 obtain ⟨s1', s2'⟩ := set_all HY6.out [.int .u8 p.tb.x0, .int .u8 p.tb.x1, .int .u8 p.tb.x2, .int .u8 p.tb.x3, .int .u8 p.tb.x4, .int .u8 p.tb.x5, .int .u8 p.tb.x6, .int .u8 p.tb.x7, .slice A1 nk c1, .int .i64 p.s0, .int .i64 p.s1, .slice A3 nn c3, .slice A5 nf c5] rfl
 have HS1 := Lib.hid s1'; have HS2 := Lib.hid s2'
 clear s1' s2'
 dsimp only
 generalize World.setCells _ _ _ [.int .u8 p.tb.x0, .int .u8 p.tb.x1, .int .u8 p.tb.x2, .int .u8 p.tb.x3, .int .u8 p.tb.x4, .int .u8 p.tb.x5, .int .u8 p.tb.x6, .int .u8 p.tb.x7, .slice A1 nk c1, .int .i64 p.s0, .int .i64 p.s1, .slice A3 nn c3, .slice A5 nf c5] = w7 at *
 go_wp2
 refine bodyPost_ret (results_cell 2 32 (w.heap.size + 1) #[.int .u8 p.tb.x0, .int .u8 p.tb.x1, .int .u8 p.tb.x2, .int .u8 p.tb.x3, .int .u8 p.tb.x4, .int .u8 p.tb.x5, .int .u8 p.tb.x6, .int .u8 p.tb.x7, .slice A1 nk c1, .int .i64 p.s0, .int .i64 p.s1, .slice A3 nn c3, .slice A5 nf c5] _ _ _ rfl rfl HS1.out Tryz.underlying32 rfl (by kernel_rfl)) rfl ?_
 have k1 := HO6.out.kept HS2.out (.inr fun e => own_ne HO6.out HY6.out (by decide) e.symm)
 have k2 := HN6.out.kept HS2.out (.inr fun e => own_ne HN6.out HY6.out (by decide) e.symm)
 have k3 := HF6.out.kept HS2.out (.inr fun e => own_ne HF6.out HY6.out (by decide) e.symm)
 have hz0 := Hb0.out.size; have hz2 := Hb2.out.size; have hz4 := Hb4.out.size
 exact ⟨A1, nk, c1, A3, nn, c3, A5, nf, c5, rfl, ⟨own_weak k1 hz0, own_weak k2 hz2, own_weak k3 hz4, hbk, hbn, hbf⟩, Hb6.out.grown HS2.out Hb6.out.size (fun k hk => by cases hk; omega)⟩
theorem step_append_atV {P : Program} {ops : Array Oper} {o : Oper} {a : Act} {K : Act → World → Prop} {Q : Exit → Act → World → Prop} {E : Prop} (w : World) (hgd : o.guard = none) (s x : Operand) (t : TypeId)
  (ho : o.op = .call { callee := .builtin .append, args := #[s, x], argTypes := #[t, t] })
  (base : Nat) (e : TypeId) (i : TypeInfo) (z : Value) (sz bytes : Nat) (ht : P.underlying t = some (.slice e)) (hinfo : P.info? e = some i ∧ i.zero = some z ∧ i.size = sz ∧ i.bytes = bytes)
  (hzs : z.cells.size = sz) (hsz : 0 < sz) (v : Value) (n : Nat) (xs : List Value) (hs : a.eval s = v) (hown : w.ownsRow base e sz v n xs)
  (B b o' : Nat) (m c : Nat) (news : List Value) (hx : a.eval x = .slice (some ⟨b, o', none⟩) m c) (hm : 0 < m) (hr : Rd w B sz (some ⟨b, o', none⟩) m news) (h1 : ∀ u ∈ news, u.oneCell' = true)
  (h63 : n + m ≤ 281474976710656) (hbytes : (n + m) * bytes ≤ 140737488355328) (hbase : base ≤ w.heap.size)
  (h : ∀ v' w', w'.ownsRow base e sz v' (n + m) (xs ++ news) → w.grownBy w' v.ownBlock → (v'.ownBlock = v.ownBlock ∨ v'.ownBlock = some w.heap.size) → K (a.put o.dst v') w') : if Region.wanted o (yielded ops a.tmps) = true then Oper.wp P o a w K Q else E := by
 have hw : Region.wanted o (yielded ops a.tmps) = true := by simp [Region.wanted, hgd]
 rw [if_pos hw]
 obtain ⟨v', w', hr1, h2, h3, h4, h5⟩ := run_append_own_at (P := P) w base t o.type e i z sz bytes ht hinfo.1 hinfo.2.1 hinfo.2.2.1 hinfo.2.2.2 hzs hsz v n xs hown ⟨b, o', none⟩ m c news hr.1 (by
  intro j u hu
  obtain ⟨b2, o2, e1, _, hc⟩ := hr.2 hm
  injection e1 with e1
  injection e1 with e2 e3
  subst e2; subst e3
  have := hc j u hu
  unfold Addr.add
  split
  ·subst_vars; simpa using this
  ·exact this) h1 (by simp only [maxLen]; omega) hbytes hbase
 unfold Oper.wp execOp
 simp only [ho, resolve, invoke, builtin, Sem.run_bind, Sem.run_pure, Result.andThen_ok, List.map_toArray, List.map_cons, List.map_nil, hs, hx, hr1]
 exact h v' w' h2 h3 h5
structure Ou.At (o : Ou) (Ap : Option Addr) (np : Nat) (As : Option Addr) (ns : Nat) (w : World) : Prop where
 p : Rd w w.heap.size 1 Ap np (ivs o.pays)
 s : SigRd w w.heap.size As ns o.sigs
 bp : np ≤ 1000000
 bs : ns ≤ 1000000
 so : ∀ s ∈ o.sigs, s.length ≤ 1000 ∧ ∀ x ∈ s, x < 256
theorem Ou.At.up {o : Ou} {Ap : Option Addr} {np : Nat} {As : Option Addr} {ns : Nat} {w w' : World} (h : o.At Ap np As ns w) (hb : Below w.heap.size w w') : o.At Ap np As ns w' :=
 ⟨(h.p.below hb (Nat.le_refl _)).more hb.size, (h.s.below hb (Nat.le_refl _)).more hb.size, h.bp, h.bs, h.so⟩
theorem ou0_at (w : World) : ou0.At none 0 none 0 w := ⟨Rd.empty, ⟨rfl, fun h => absurd h (by omega)⟩, by omega, by omega, by simp [ou0]⟩
def SigOw (w : World) (C : Nat) (v : Value) (n : Nat) (ss : List (List Nat)) : Prop :=
 ∃ vs, w.ownsRow C 46 1 v n vs ∧ ss.length = n ∧ ∀ k, k < n → ∃ A m c, vs[k]? = some (.slice A m c) ∧ w.ownsRow C 5 1 (.slice A m c) m (bv (ss.getD k []))
theorem SigOw.nil (w : World) (C : Nat) : SigOw w C (.slice none 0 0) 0 [] := ⟨[], World.ownsRow_nil _ _ _ _, rfl, fun k hk => absurd hk (by omega)⟩
section
variable {w w' : World} {C n c : Nat} {A : Option Addr} {v : Value} {ss : List (List Nat)}
theorem SigOw.below (h : SigOw w C v n ss) (hb : Below w.heap.size w w') : SigOw w' C v n ss := by
 obtain ⟨vs, h1, h2, h3⟩ := h
 refine ⟨vs, own_below h1 hb, h2, fun k hk => ?_⟩
 obtain ⟨A, m, c, h4, h5⟩ := h3 k hk
 exact ⟨A, m, c, h4, own_below h5 hb⟩
theorem SigOw.kept {g : Nat} {cs : Array Value} {T : TypeId} {fz : Nat × Nat} (h : SigOw w C v n ss) (hg : w.grownBy w' (some g)) (hb : w.heap[g]? = some (.cells cs T fz)) (h1 : T ≠ 46) (h2 : T ≠ 5) : SigOw w' C v n ss := by
 obtain ⟨vs, k1, k2, k3⟩ := h
 refine ⟨vs, k1.kept hg (.inr fun e => own_ne k1 hb (fun q => h1 q.symm) e.symm), k2, fun k hk => ?_⟩
 obtain ⟨A, m, c, h4, h5⟩ := k3 k hk
 exact ⟨A, m, c, h4, h5.kept hg (.inr fun e => own_ne h5 hb (fun q => h2 q.symm) e.symm)⟩
theorem SigOw.rd (h : SigOw w C (.slice A n c) n ss) : SigRd w w.heap.size A n ss := by
 obtain ⟨vs, h1, h2, h3⟩ := h
 refine sigrd_of_own h1 h2 fun k hk => ?_
 obtain ⟨A', m, c', h4, h5⟩ := h3 k hk
 exact ⟨A', m, c', h4, Rd.of_own h5⟩
theorem SigOw.form (h : SigOw w C v n ss) : ∃ A c, v = .slice A n c := by
 obtain ⟨vs, h1, _⟩ := h
 exact own_form h1
end
structure Ou.Own (o : Ou) (C : Nat) (Ap : Option Addr) (np cp : Nat) (As : Option Addr) (ns cs : Nat) (w : World) : Prop where
 p : w.ownsRow C 3 1 (.slice Ap np cp) np (ivs o.pays)
 s : SigOw w C (.slice As ns cs) ns o.sigs
 bp : np ≤ 1000000
 bs : ns ≤ 1000000
 so : ∀ s ∈ o.sigs, s.length ≤ 1000 ∧ ∀ x ∈ s, x < 256
theorem Ou.Own.at_ {o : Ou} {C : Nat} {Ap : Option Addr} {np cp : Nat} {As : Option Addr} {ns cs : Nat} {w : World} (h : o.Own C Ap np cp As ns cs w) : o.At Ap np As ns w :=
 ⟨Rd.of_own h.p, h.s.rd, h.bp, h.bs, h.so⟩
theorem SigOw.weak {w : World} {C C' n : Nat} {v : Value} {ss : List (List Nat)} (h : SigOw w C v n ss) (hC : C' ≤ C) : SigOw w C' v n ss := by
 obtain ⟨vs, h1, h2, h3⟩ := h
 refine ⟨vs, own_weak h1 hC, h2, fun k hk => ?_⟩
 obtain ⟨A, m, c, h4, h5⟩ := h3 k hk
 exact ⟨A, m, c, h4, own_weak h5 hC⟩
set_option maxRecDepth 100000 in
set_option maxHeartbeats 4000000 in
theorem ouclone_any (o : Ou) (Ap : Option Addr) (np cp : Nat) (As : Option Addr) (ns cs : Nat) (w : World) (h : o.At Ap np As ns w) :
  Calls Tryz.prog 85 #[.agg #[.slice Ap np cp, .slice As ns cs]] w fun e w' => ∃ A1 c1 A2 c2, e = .returned (.agg #[.slice A1 np c1, .slice A2 ns c2]) ∧ o.Own w.heap.size A1 np c1 A2 ns c2 w' ∧ Below w.heap.size w w' := by
 have HX0 : Hid (((w.alloc (.cells #[.slice Ap np cp, .slice As ns cs] 59)).alloc (.cells #[.slice none 0 0, .slice none 0 0] 59)).heap[w.heap.size]? = some (.cells #[.slice Ap np cp, .slice As ns cs] 59 (0, 0))) := block_alloc (heap_alloc_new _ _) _
 have HY0 : Hid (((w.alloc (.cells #[.slice Ap np cp, .slice As ns cs] 59)).alloc (.cells #[.slice none 0 0, .slice none 0 0] 59)).heap[w.heap.size + 1]? = some (.cells #[.slice none 0 0, .slice none 0 0] 59 (0, 0))) := alloc_at (by simp)
 have Hb0 : Hid (Below w.heap.size w ((w.alloc (.cells #[.slice Ap np cp, .slice As ns cs] 59)).alloc (.cells #[.slice none 0 0, .slice none 0 0] 59))) := below_two _ _ _
 have H := Lib.hid h
 have hbp := h.bp; have hbs := h.bs
 have Hsl := Lib.hid h.s.1
 clear h
 obtain ⟨i0, hi, hz0, hz1, hz2⟩ := info_parts info_bytes
 have HI := Lib.hid (And.intro hi (And.intro hz0 (And.intro hz1 hz2))); clear hi hz0 hz1 hz2
 have r0 := block_cell HX0.out 0
 simp at r0
 go_enter Tryz.func85, Tryz.ntmps85
 go_wp2_with fail
 generalize (w.alloc (.cells #[.slice Ap np cp, .slice As ns cs] 59)).alloc (.cells #[.slice none 0 0, .slice none 0 0] 59) = w0 at *
 refine (iclone_any (ivs o.pays) (ivs_one _) Ap np cp w0 ((H.out.p.below Hb0.out (Nat.le_refl _)).more Hb0.out.size) hbp).mono ?_
 rintro e w1 ⟨A1, c1, rfl, ho1, hb1⟩
 have HX1 := Lib.hid (block_below HX0.out hb1 (block_lt HX0.out)); have HY1 := Lib.hid (block_below HY0.out hb1 (block_lt HY0.out)); have Hb1 := Lib.hid (Hb0.out.trans (hb1.mono Hb0.out.size))
 have HO1 := Lib.hid (ho1.alloc (.cells #[.slice A1 np c1, .slice none 0 0] 59))
 have HX2 := Lib.hid (block_alloc HX1.out (.cells #[.slice A1 np c1, .slice none 0 0] 59)); have HY2 := Lib.hid (block_alloc HY1.out (.cells #[.slice A1 np c1, .slice none 0 0] 59))
 have HZ2 := Lib.hid (heap_alloc_new w1 (.cells #[.slice A1 np c1, .slice none 0 0] 59))
 have Hb2 := Lib.hid (Hb1.out.alloc Hb1.out.size (.cells #[.slice A1 np c1, .slice none 0 0] 59))
 have hz2 : (w1.alloc (.cells #[.slice A1 np c1, .slice none 0 0] 59)).heap.size = w1.heap.size + 1 := by simp
 clear ho1 hb1 r0
 go_upto_region 2 with fail
 generalize w1.alloc (.cells #[.slice A1 np c1, .slice none 0 0] 59) = w2 at *
 have r1 := block_cell HX2.out 1
 simp at r1
 have Hz2 := Lib.hid hz2
 clear hz2
 go_wp2
 go_loopw [13] (fun i wr => ∃ (k : Nat) (A' : Option Addr) (c' : Nat), k ≤ ns ∧ i = .int .i64 k ∧ Hid (wr.heap[w1.heap.size]? = some (.cells #[.slice A1 np c1, .slice A' k c'] 59 (0, 0))) ∧ Hid (SigOw wr w2.heap.size (.slice A' k c') k (o.sigs.take k)) ∧ Hid (wr.ownsRow w0.heap.size 3 1 (.slice A1 np c1) np (ivs o.pays)) ∧ Hid (w2.grownBy wr (some w1.heap.size))) (fun i _ => ns - (RowKit.intOf i).toNat)
 case atStart => exact ⟨0, none, 0, by omega, rfl, HZ2, Lib.hid (SigOw.nil _ _), HO1, Lib.hid (World.grownBy.refl _ _)⟩
 case round =>
  obtain ⟨k, A', c', hk, rfl, HZ, HS, HO, HG⟩ := hrel
  have hgs := HG.out.size
  have HBw : Hid (Below w.heap.size w wr) := Lib.hid (Hb2.out.grown HG.out Hb2.out.size (fun q hq => by cases hq; exact Hb1.out.size))
  by_cases hlt : k < ns
  ·obtain ⟨b, oo, A3, m3, c3, rfl, hbB, hx, hr⟩ := (H.out.s.below HBw.out (Nat.le_refl _)).elem hlt
   have hd1 : decide ((k : Int) < (ns : Int)) = true := decide_eq_true (by omega)
   have hki : (k : Int) < (ns : Int) := by omega
   have hs3 := H.out.so (o.sigs.getD k []) (by rw [List.getD_eq_getElem?_getD, List.getElem?_eq_getElem (by rw [Hsl.out]; exact hlt)]; exact List.getElem_mem _)
   have hm3 : m3 ≤ 1000 := by rw [← hr.blen]; exact hs3.1
   have Hr := Lib.hid (hr.more HBw.out.size)
   have Htk : Hid (o.sigs.take (k + 1) = o.sigs.take k ++ [o.sigs.getD k []]) := Lib.hid (by rw [List.take_succ_eq_append_getElem (by rw [Hsl.out]; exact hlt)]; simp [List.getD_eq_getElem?_getD, List.getElem?_eq_getElem (show k < o.sigs.length by rw [Hsl.out]; exact hlt)])
   generalize o.sigs.getD k [] = s at *
   obtain ⟨vs, k1, k2, k3⟩ := HS.out
   have hvl : vs.length = k := by have := k1.1; omega
   have HK1 := Lib.hid k1; have HK2 := Lib.hid k2; have HK3 := Lib.hid k3; have Hvl := Lib.hid hvl
   have z1 := block_cell HZ.out 1
   simp at z1
   have hlz := block_lt HZ.out
   clear hr hs3 k1 k2 k3 hvl
   go_wp2
   go_region_law (first
    | (go_simp; go_at_call 123; go_must (refine (byclone_any (bv s) (bv_one _) A3 m3 c3 wr.drew Hr.out.drew (by omega)).mono ?_; rintro e w4 ⟨A4, c4, rfl, ho4, hb4⟩; have HB4 : Hid (Below wr.heap.size wr w4) := Lib.hid ((Below.refl wr.heap.size wr).drew.trans hb4); have HQ4 : Hid (w4.ownsRow w2.heap.size 5 1 (.slice A4 m3 c4) m3 (bv s)) := Lib.hid (own_weak ho4 hgs); clear ho4 hb4; have HZ4 := Lib.hid (block_below HZ.out HB4.out hlz); have HK4 := Lib.hid ((own_below HK1.out HB4.out).alloc (.cells #[.slice A4 m3 c4] 46)); have z41 := block_cell HZ4.out 1; simp at z41; have HR4 : Hid (Rd (w4.alloc (.cells #[.slice A4 m3 c4] 46)) (w4.heap.size + 1) 1 (some ⟨w4.heap.size, 0, none⟩) 1 [.slice A4 m3 c4]) := Lib.hid (by have := Rd.newA (n := 1) (sz := 1) (xs := [.slice A4 m3 c4]) w4 46 #[.slice A4 m3 c4] rfl rfl; simp at this; exact this); have hz4 := block_lt HZ4.out; have hb44 : w2.heap.size ≤ (w4.alloc (.cells #[.slice A4 m3 c4] 46)).heap.size := (by have := HB4.out.size; rw [World.size_alloc]; omega)))
    | (refine step_append_atV (w4.alloc (.cells #[.slice A4 m3 c4] 46)) (by rfl) _ _ 57 (by rfl) w2.heap.size 46 i0 (.slice none 0 0) 1 24 Tryz.underlying57 HI.out rfl (by decide) _ _ _ (by rfl) HK4.out (w4.heap.size + 1) w4.heap.size 0 1 1 _ (by simp [Act.eval]) (by decide) HR4.out (by simp [Value.oneCell']) (by omega) (by omega) hb44 ?_; go_must (intro v5 w5 ho5 hg5 hw5; obtain ⟨A5, c5, rfl⟩ := own_form ho5; have HO5 := Lib.hid ho5; have HG5 := Lib.hid hg5; clear ho5 hg5 hw5; have HZ5 := Lib.hid (block_grown (block_alloc HZ4.out (.cells #[.slice A4 m3 c4] 46)) HG5.out (own_ne HK4.out (block_alloc HZ4.out (.cells #[.slice A4 m3 c4] 46)) (by decide))); have z5 := block_cell HZ5.out 1; have zf5 := block_free HZ5.out; simp at z5)))
   all_goals
    have h6 := Joins.block_setCell (i := 1) HZ5.out (.slice A5 (k + 1) c5)
    have g6 := pgrown_set (w := w5) w1.heap.size 1 (.slice A5 (k + 1) c5)
    simp at h6
    have HZ6 := Lib.hid h6
    have HO6 := Lib.hid (HO5.out.kept g6 (.inr fun e => own_ne HO5.out HZ5.out (by decide) e.symm))
    have hstep : ∀ {b2 sz2 n2 : Nat} {e2 : TypeId} {v2 : Value} {x2 : List Value}, w4.ownsRow b2 e2 sz2 v2 n2 x2 → e2 ≠ 46 → e2 ≠ 59 → (w5.setCell ⟨w1.heap.size, 1, none⟩ (.slice A5 (k + 1) c5)).ownsRow b2 e2 sz2 v2 n2 x2 := fun hq h1 h2 => by
     have q5 := (World.ownsRow.alloc hq (.cells #[.slice A4 m3 c4] 46)).kept HG5.out (own_apart (World.ownsRow.alloc hq (.cells #[.slice A4 m3 c4] 46)) HK4.out h1)
     exact q5.kept g6 (.inr fun e => own_ne q5 HZ5.out h2 e.symm)
    have HQ6 := Lib.hid (hstep HQ4.out (by decide) (by decide))
    have HP6 := Lib.hid (hstep (own_below HO.out HB4.out) (by decide) (by decide))
    have HE6 : Hid (∀ j, j < k → ∃ A m c, vs[j]? = some (.slice A m c) ∧ (w5.setCell ⟨w1.heap.size, 1, none⟩ (.slice A5 (k + 1) c5)).ownsRow w2.heap.size 5 1 (.slice A m c) m (bv ((o.sigs.take k).getD j []))) := Lib.hid (fun j hj => by
     obtain ⟨A, m, c, q1, q2⟩ := HK3.out j hj
     exact ⟨A, m, c, q1, hstep (own_below q2 HB4.out) (by decide) (by decide)⟩)
    have HG6 : Hid (w2.grownBy (w5.setCell ⟨w1.heap.size, 1, none⟩ (.slice A5 (k + 1) c5)) (some w1.heap.size)) := Lib.hid ((grown_row (grown_alloc (grown_row (row := none) HG.out ⟨HB4.out.os, HB4.out.tape, HB4.out.output, HB4.out.size, fun q hq _ => HB4.out.block q hq⟩ (fun _ e => by cases e)) (.cells #[.slice A4 m3 c4] 46)) HG5.out (fun g hg => (HK4.out.lt g hg).1)).trans g6)
    have HS6 : Hid (SigOw (w5.setCell ⟨w1.heap.size, 1, none⟩ (.slice A5 (k + 1) c5)) w2.heap.size (.slice A5 (k + 1) c5) (k + 1) (o.sigs.take (k + 1))) := Lib.hid ⟨vs ++ [.slice A4 m3 c4], HO6.out, by rw [Htk.out, List.length_append, HK2.out]; rfl, fun j hj => by
     rcases Nat.lt_or_ge j k with h1 | h1
     ·obtain ⟨A, m, c, q1, q2⟩ := HE6.out j h1
      refine ⟨A, m, c, by rw [List.getElem?_append_left (by rw [Hvl.out]; exact h1)]; exact q1, ?_⟩
      rw [Htk.out, List.getD_eq_getElem?_getD, List.getElem?_append_left (by rw [HK2.out]; exact h1), ← List.getD_eq_getElem?_getD]
      exact q2
     ·obtain rfl : j = k := by omega
      refine ⟨A4, m3, c4, by rw [List.getElem?_append_right (by rw [Hvl.out]; exact Nat.le_refl _), Hvl.out]; simp, ?_⟩
      rw [Htk.out, List.getD_eq_getElem?_getD, List.getElem?_append_right (by rw [HK2.out]; exact Nat.le_refl _), HK2.out]
      simpa using HQ6.out⟩
    clear h6 g6
    go_wp2
    go_roundw
    case rel => exact ⟨k + 1, A5, c5, hlt, by go_num, HZ6, HS6, HP6, HG6⟩
    case measure => simp [RowKit.intOf]; omega
  ·have hkn : k = ns := by omega
   subst hkn
   have hd1 : decide ((k : Int) < (k : Int)) = false := decide_eq_false (by omega)
   have htk : o.sigs.take k = o.sigs := List.take_of_length_le (by rw [Hsl.out]; omega)
   rw [htk] at HS
   have HY9 := Lib.hid ((HG.out.block (w.heap.size + 1) (block_lt HY2.out) (by intro e; injection e with e; have := block_lt HY1.out; omega)).trans HY2.out)
   clear htk hlt
   go_upto_region 7 with fail
   refine wp_region_list ?_
   refine wpList_load_mid (by rfl) 59 _ (by rfl) w1.heap.size 0 (by rfl) [.slice A1 np c1, .slice A' k c'] _ (range_all HZ.out) Tryz.underlying59 rfl (by kernel_rfl) ?_
   simp only [Act.put, sT]
   refine wpList_store_mid (by rfl) 59 _ _ (by rfl) (w.heap.size + 1) 0 #[.slice A1 np c1, .slice A' k c'] (by rfl) (by rfl) (there_mid HY9.out (by simp)) (by kernel_rfl) (by kernel_rfl) ?_
   obtain ⟨s1', s2'⟩ := set_all HY9.out [.slice A1 np c1, .slice A' k c'] rfl
   have HS1 := Lib.hid s1'; have HS2 := Lib.hid s2'
   clear s1' s2'
   dsimp only
   generalize World.setCells _ _ _ [.slice A1 np c1, .slice A' k c'] = w9 at *
   go_wp2
   refine bodyPost_ret (results_cell 2 59 (w.heap.size + 1) #[.slice A1 np c1, .slice A' k c'] _ _ _ rfl rfl HS1.out Tryz.underlying59 rfl (by kernel_rfl)) rfl ?_
   have q1 := HO.out.kept HS2.out (.inr fun e => own_ne HO.out HY9.out (by decide) e.symm)
   have q2 := HS.out.kept HS2.out HY9.out (by decide) (by decide)
   exact ⟨A1, c1, A', c', rfl, ⟨own_weak q1 Hb0.out.size, q2.weak Hb2.out.size, hbp, hbs, H.out.so⟩, HBw.out.grown HS2.out HBw.out.size (fun q hq => by cases hq; omega)⟩
structure TK (T : TypeId → Prop) (w w' : World) : Prop where
 keep : ∀ (k : Nat) cs t fz, w.heap[k]? = some (.cells cs t fz) → ¬ T t → w'.heap[k]? = some (.cells cs t fz)
 size : w.heap.size ≤ w'.heap.size
theorem TK.of_below {T : TypeId → Prop} {w w' : World} (h : Below w.heap.size w w') : TK T w w' := ⟨fun _ _ _ _ hk _ => block_below hk h (block_lt hk), h.size⟩
theorem TK.trans {T : TypeId → Prop} {w w1 w2 : World} (h : TK T w w1) (h2 : TK T w1 w2) : TK T w w2 := ⟨fun k cs t fz hk ht => h2.keep k cs t fz (h.keep k cs t fz hk ht) ht, Nat.le_trans h.size h2.size⟩
theorem TK.of_kept {w w' : World} {bk mb : Nat} (h : Kept w w' bk mb) (hb : ∀ k cs t fz, w.heap[k]? = some (.cells cs t fz) → k = bk → t = 181) : TK (fun t => t = 243 ∨ t = 181) w w' :=
 ⟨fun k cs t fz hk ht => h.typed k cs t fz hk (fun e => ht (.inl e)) (fun e => ht (.inr (hb k cs t fz hk e))), h.size⟩
theorem TK.of_grown {w w' : World} {g : Nat} {cs : Array Value} {t : TypeId} {fz : Nat × Nat} (h : w.grownBy w' (some g)) (hg : w.heap[g]? = some (.cells cs t fz)) {T : TypeId → Prop} (ht : T t) : TK T w w' :=
 ⟨fun k cs' t' fz' hk ht' => (h.block k (block_lt hk) (fun e => by injection e with e; subst e; rw [hk] at hg; injection hg with hg; injection hg with _ e2 _; exact ht' (e2 ▸ ht))).trans hk, h.size⟩
theorem TK.of_map {w w' : World} {g : Nat} {es : Array MapEntry} {cl : Nat} (h : w.grownBy w' (some g)) (hg : w.heap[g]? = some (.map es cl)) {T : TypeId → Prop} : TK T w w' :=
 ⟨fun k cs' t' fz' hk _ => (h.block k (block_lt hk) (fun e => by injection e with e; subst e; rw [hk] at hg; cases hg)).trans hk, h.size⟩
theorem own_tk {T : TypeId → Prop} {w w' : World} {C n sz : Nat} {e : TypeId} {v : Value} {xs : List Value} (h : w.ownsRow C e sz v n xs) (hk : TK T w w') (he : ¬ T e) : w'.ownsRow C e sz v n xs := by
 refine ⟨h.1, ?_⟩
 rcases h.2 with h5 | ⟨g, cap, cur, e1, hb, hg, hr⟩
 ·exact .inl h5
 ·exact .inr ⟨g, cap, cur, e1, hb, hk.keep _ _ _ _ hg he, hr⟩
theorem SigOw.tk {T : TypeId → Prop} {w w' : World} {C n : Nat} {v : Value} {ss : List (List Nat)} (h : SigOw w C v n ss) (hk : TK T w w') (h1 : ¬ T 46) (h2 : ¬ T 5) : SigOw w' C v n ss := by
 obtain ⟨vs, k1, k2, k3⟩ := h
 refine ⟨vs, own_tk k1 hk h1, k2, fun k hk' => ?_⟩
 obtain ⟨A, m, c, h4, h5⟩ := k3 k hk'
 exact ⟨A, m, c, h4, own_tk h5 hk h2⟩
theorem own_put {w : World} {C e sz n c g : Nat} {xs : List Value} (h : w.ownsRow C e sz (.slice (some ⟨g, 0, none⟩) n c) n xs) {k : Nat} (hk : k < n) (vs : List Value) (hv : vs.length = sz) :
  (w.setCells g (k * sz) vs).ownsRow C e sz (.slice (some ⟨g, 0, none⟩) n c) n (xs.take (k * sz) ++ vs ++ xs.drop (k * sz + sz)) ∧ w.grownBy (w.setCells g (k * sz) vs) (some g) ∧ w.there g (k * sz) sz := by
 have hks : k * sz + sz ≤ n * sz := by
  have : (k + 1) * sz ≤ n * sz := Nat.mul_le_mul_right _ hk
  rwa [Nat.add_mul, Nat.one_mul] at this
 rcases h.2 with ⟨h5, _⟩ | ⟨g', cap, cur, e1, hb, hg, hnc, hcm, hcs, htk⟩
 ·cases h5
 ·injection e1 with e1 e2 e3
  injection e1 with e1
  injection e1 with e1 _ _
  subst e1 e3
  have hcap : n * sz ≤ c * sz := Nat.mul_le_mul_right _ hnc
  have h1 := block_setCells (g := g) vs (k * sz) w cur hg
  have hxl := h.1
  refine ⟨⟨by simp only [List.length_append, List.length_take, List.length_drop, hv, hxl]; omega, .inr ⟨g, c, _, rfl, hb, h1, hnc, hcm, by rw [layA_size, hcs], ?_⟩⟩, grown_setCells (g := g) vs (k * sz) w, there_mid hg (by omega)⟩
  refine List.ext_getElem? fun j => ?_
  have hx : ∀ j, j < n * sz → cur[j]? = xs[j]? := fun j hj => by rw [← htk, List.getElem?_take, if_pos hj, Array.getElem?_toList]
  rw [List.getElem?_take]
  by_cases hj : j < n * sz
  ·rw [if_pos hj, Array.getElem?_toList, layA_at vs cur (k * sz) j (by omega), hv]
   by_cases h2 : k * sz ≤ j ∧ j < k * sz + sz
   ·rw [if_pos h2, List.append_assoc, List.getElem?_append_right (by rw [List.length_take]; omega), List.length_take, Nat.min_eq_left (by omega), List.getElem?_append_left (by omega)]
   ·rw [if_neg h2, hx j hj]
    rcases Nat.lt_or_ge j (k * sz) with h3 | h3
    ·rw [List.append_assoc, List.getElem?_append_left (by rw [List.length_take]; omega), List.getElem?_take_of_lt h3]
    ·rw [List.getElem?_append_right (by rw [List.length_append, List.length_take, hv]; omega), List.length_append, List.length_take, hv, Nat.min_eq_left (by omega), List.getElem?_drop]
     congr 1; omega
  ·rw [if_neg hj, eq_comm, List.getElem?_eq_none_iff]
   simp only [List.length_append, List.length_take, List.length_drop, hv, hxl]
   omega
structure PuA where
 p : Pu
 A : Option Addr
 n : Nat
 c : Nat
instance : Inhabited PuA := ⟨⟨pu0, none, 0, 0⟩⟩
def PuA.cells (a : PuA) : List Value := [.int .u8 a.p.nm.x0, .int .u8 a.p.nm.x1, .int .u8 a.p.nm.x2, .int .u8 a.p.nm.x3, .int .u8 a.p.nm.x4, .int .u8 a.p.nm.x5, .int .u8 a.p.nm.x6, .int .u8 a.p.nm.x7, .int .i64 a.p.no, .int .i64 a.p.h0, .int .i64 a.p.h1, .slice a.A a.n a.c]
def flatP (l : List PuA) : List Value := l.flatMap PuA.cells
theorem flatP_len (l : List PuA) : (flatP l).length = l.length * 12 := by
 induction l with
 | nil => rfl
 | cons i l ih =>
  have : flatP (i :: l) = i.cells ++ flatP l := by simp [flatP]
  rw [this, List.length_append, ih]; simp [PuA.cells]; omega
theorem flatP_append (l m : List PuA) : flatP (l ++ m) = flatP l ++ flatP m := by simp [flatP]
theorem flatP_at : ∀ (l : List PuA) (k j : Nat), k < l.length → j < 12 → (flatP l)[k * 12 + j]? = (l.getD k default).cells[j]?
 | [], k, _, h, _ => by simp at h
 | i :: l, k, j, h, hj => by
  have e : flatP (i :: l) = i.cells ++ flatP l := by simp [flatP]
  have hc : i.cells.length = 12 := rfl
  rw [e]
  cases k with
  | zero => rw [List.getElem?_append_left (by omega)]; simp
  | succ k =>
   rw [List.getElem?_append_right (by omega), hc, show (k + 1) * 12 + j - 12 = k * 12 + j from by omega]
   have := flatP_at l k j (by simpa using h) hj
   simpa using this
theorem flatP_set : ∀ (l : List PuA) (k : Nat) (a : PuA), k < l.length → flatP (l.set k a) = (flatP l).take (k * 12) ++ a.cells ++ (flatP l).drop (k * 12 + 12)
 | [], k, _, h => by simp at h
 | i :: l, k, a, h => by
  have e : flatP (i :: l) = i.cells ++ flatP l := by simp [flatP]
  have hc : i.cells.length = 12 := rfl
  cases k with
  | zero =>
   have e2 : flatP ((i :: l).set 0 a) = a.cells ++ flatP l := by simp [flatP]
   rw [e2, e]
   simp [hc]
  | succ k =>
   have e2 : flatP ((i :: l).set (k + 1) a) = i.cells ++ flatP (l.set k a) := by simp [flatP]
   rw [e2, flatP_set l k a (by simpa using h), e, List.take_append, hc, show List.take ((k + 1) * 12) i.cells = i.cells from List.take_of_length_le (by rw [hc]; omega), show (k + 1) * 12 - 12 = k * 12 by omega,
    List.drop_append, hc, show List.drop ((k + 1) * 12 + 12) i.cells = [] from List.drop_of_length_le (by rw [hc]; omega), show (k + 1) * 12 + 12 - 12 = k * 12 + 12 by omega]
   simp
structure PuA.Own (a : PuA) (C : Nat) (w : World) : Prop where
 h : w.ownsRow C 120 11 (.slice a.A a.n a.c) a.n (flatH a.p.held)
 s : a.n ≤ 1000000
theorem PuA.Own.at_ {a : PuA} {C : Nat} {w : World} (h : a.Own C w) : PuV.At a.p a.A a.n a.c w := ⟨Rd.of_own h.h, own_cap h.h, h.s⟩
structure OuA where
 o : Ou
 Ap : Option Addr
 np : Nat
 cp : Nat
 As : Option Addr
 ns : Nat
 cs : Nat
def OuA.V (a : OuA) : Value := .agg #[.slice a.Ap a.np a.cp, .slice a.As a.ns a.cs]
def OuA.Own (a : OuA) (C : Nat) (w : World) : Prop := a.o.Own C a.Ap a.np a.cp a.As a.ns a.cs w
def oua0 : OuA := ⟨ou0, none, 0, 0, none, 0, 0⟩
def spV (s : Int × Int) : Value := .agg #[.int .i64 s.1, .int .i64 s.2]
def spOk (s : Int × Int) : Prop := (0 ≤ s.1 ∧ s.1 ≤ 100) ∧ (0 ≤ s.2 ∧ s.2 ≤ 100)
def atV (l : List ((Int × Int) × Int)) : List ((Int × Int) × Value) := l.map fun x => (x.1, .int .i64 x.2)
def byV (l : List ((Int × Int) × OuA)) : List ((Int × Int) × Value) := l.map fun x => (x.1, x.2.V)
def byO (l : List ((Int × Int) × OuA)) : List ((Int × Int) × Ou) := l.map fun x => (x.1, x.2.o)
def Ent (f : FuncId) : Prop := ∀ (xs : Array Value) (w : World), (callFunc f xs).run Tryz.prog w = .ok (.enter f xs) w
set_option maxRecDepth 100000 in
set_option maxHeartbeats 2000000 in
theorem unless1_any (f : FuncId) (pre caps : Array Value) (hE : Ent f) (b1 b2 : Nat) (er : Int) (ok : Bool) (R : World → Prop) (w : World) (h1 : w.cell? ⟨b1, 0, none⟩ = some (.func (.func f) pre caps))
  (hc : Calls Tryz.prog f (pre ++ caps) w fun e w' => e = .returned (.bool ok) ∧ R w') (hR : ∀ w', R w' → w'.cell? ⟨b2, 0, none⟩ = some (.int .i64 er)) :
  Calls Tryz.prog 131 #[.pointer (some ⟨b1, 0, none⟩), .pointer (some ⟨b2, 0, none⟩)] w fun e w' => e = .returned (.int .i64 (if ok = true then 0 else er)) ∧ R w' := by
 have hE' : ∀ (xs : Array Value) (w : World), (callFunc f xs).run Tryz.prog w = .ok (.enter f xs) w := hE
 have Hc := Lib.hid hc; have HR := Lib.hid hR
 clear hc hR hE
 go_enter Tryz.func131, Tryz.ntmps131
 go_wp2_with fail
 refine Hc.out.mono ?_
 rintro e w1 ⟨rfl, hr⟩
 have h2 := HR.out w1 hr
 have Hr := Lib.hid hr
 clear hr
 cases ok with
 | true =>
  go_wp2
  go_ret
  exact ⟨rfl, Hr.out⟩
 | false =>
  go_wp2
  go_ret
  exact ⟨rfl, Hr.out⟩
set_option maxRecDepth 100000 in
set_option maxHeartbeats 2000000 in
theorem unless_any (f : FuncId) (pre caps : Array Value) (er : Int) (w : World) :
  Calls Tryz.prog 63 #[.func (.func f) pre caps, .int .i64 er] w fun e w' => e = .returned (.func (.func 131) #[] #[.pointer (some ⟨w.heap.size, 0, none⟩), .pointer (some ⟨w.heap.size + 1, 0, none⟩)]) ∧ w'.cell? ⟨w.heap.size, 0, none⟩ = some (.func (.func f) pre caps) ∧ w'.cell? ⟨w.heap.size + 1, 0, none⟩ = some (.int .i64 er) ∧ w'.heap.size = w.heap.size + 2 ∧ Below w.heap.size w w' := by
 go_enter Tryz.func63, Tryz.ntmps63
 go_wp2
 go_ret
 refine ⟨rfl, ?_, ?_, by simp, below_two _ _ _⟩
 ·exact block_cell (block_alloc (heap_alloc_new w _) _) 0
 ·exact block_cell (alloc_at (by simp)) 0
set_option maxRecDepth 100000 in
set_option maxHeartbeats 2000000 in
theorem first_any (n : Nat) (hn : n ≤ 100) (fs : Nat → FuncId × Array Value) (b o : Nat) (I : Nat → World → Prop) (code : Nat → Int) (w : World) (h0 : I 0 w)
  (hcell : ∀ k w', k < n → I k w' → w'.cell? ⟨b, o + k, none⟩ = some (.func (.func (fs k).1) #[] (fs k).2)) (hE : ∀ k, k < n → Ent (fs k).1)
  (hcall : ∀ k, k < n → (∀ j, j < k → code j = 0) → ∀ w', I k w' → Calls Tryz.prog (fs k).1 (fs k).2 w' fun e w'' => e = .returned (.int .i64 (code k)) ∧ I (k + 1) w'') :
  Calls Tryz.prog 62 #[.slice (some ⟨b, o, none⟩) n n] w fun e w' => (e = .returned (.int .i64 0) ∧ (∀ j, j < n → code j = 0) ∧ I n w') ∨ ∃ k, k < n ∧ (∀ j, j < k → code j = 0) ∧ code k ≠ 0 ∧ e = .returned (.int .i64 (code k)) ∧ I (k + 1) w' := by
 have Hcell := Lib.hid hcell; have HE := Lib.hid hE; have Hcall := Lib.hid hcall; have H0 := Lib.hid h0
 clear hcell hE hcall h0
 go_enter Tryz.func62, Tryz.ntmps62
 go_wp2
 go_loopw [8] (fun i wr => ∃ k : Nat, k ≤ n ∧ i = .int .i64 k ∧ Hid (∀ j, j < k → code j = 0) ∧ Hid (I k wr)) (fun i _ => n - (RowKit.intOf i).toNat)
 case atStart => exact ⟨0, by omega, rfl, Lib.hid (fun j hj => absurd hj (by omega)), H0⟩
 case round =>
  obtain ⟨k, hk, rfl, HC, HI⟩ := hrel
  by_cases hlt : k < n
  ·have hd1 : decide ((k : Int) < (n : Int)) = true := decide_eq_true (by omega)
   have hki : (k : Int) < (n : Int) := by omega
   have hc := Hcell.out k wr hlt HI.out
   have hE' : ∀ (xs : Array Value) (w : World), (callFunc (fs k).1 xs).run Tryz.prog w = .ok (.enter (fs k).1 xs) w := HE.out k hlt
   have hcall := Lib.hid (Hcall.out k hlt HC.out wr HI.out)
   generalize (fs k).1 = f at *
   generalize (fs k).2 = caps at *
   go_wp2_with fail
   refine hcall.out.mono ?_
   rintro e w1 ⟨rfl, hi⟩
   have HI1 := Lib.hid hi
   clear hi hc
   by_cases hq : code k = 0
   ·have b1 : (code k != 0) = false := by simpa using hq
    have HC1 : Hid (∀ j, j < k + 1 → code j = 0) := Lib.hid (fun j hj => by
     rcases Nat.lt_or_ge j k with h1 | h1
     ·exact HC.out j h1
     ·obtain rfl : j = k := by omega
      exact hq)
    clear hq
    go_wp2
    go_roundw
    case rel => exact ⟨k + 1, hlt, by go_num, HC1, HI1⟩
    case measure => simp [RowKit.intOf]; omega
   ·have b1 : (code k != 0) = true := by simpa using hq
    have Hq := Lib.hid hq
    clear hq
    go_wp2
    go_ret
    exact .inr ⟨k, hlt, HC.out, Hq.out, rfl, HI1.out⟩
  ·have hkn : k = n := by omega
   subst hkn
   have hd1 : decide ((k : Int) < (k : Int)) = false := decide_eq_false (by omega)
   clear hlt
   go_wp2
   go_ret
   exact .inl ⟨rfl, HC.out, HI.out⟩
end Go.Proofs.YthhiookcknnmdaaGreat
