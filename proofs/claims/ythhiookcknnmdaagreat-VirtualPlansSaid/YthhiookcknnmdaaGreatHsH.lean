/- The hash of bytes in the reference: the walks of Bytes, Out, Of. Conditions: bounds on how many bytes. -/
import Derived.Test.YthhiookcknnmdaaGreatJoinH
import Derived.Test.YthhiookcknnmdaaGreatAppend
import Derived.Test.YthhiookcknnmdaaGreatInv
namespace Go.Proofs.YthhiookcknnmdaaGreat
open Go.RowKit Go.Lib

theorem sd_of {w : World} {g g5 : Nat} {T T5 : TypeId} {c0 c1 c2 c3 x0 x1 x2 x3 x4 x5 x6 x7 : Value} (h : w.heap[g]? = some (.cells #[c0, c1, c2, c3] T (0, 0))) (h5 : w.heap[g5]? = some (.cells #[x0, x1, x2, x3, x4, x5, x6, x7] T5 (0, 0))) :
  (w.cell? ⟨g, 0, none⟩ = some c0 ∧ w.cell? ⟨g, 1, none⟩ = some c1 ∧ w.cell? ⟨g, 2, none⟩ = some c2 ∧ w.cell? ⟨g, 3, none⟩ = some c3) ∧ w.cell? ⟨g5, 0, none⟩ = some x0 ∧ w.cell? ⟨g5, 1, none⟩ = some x1 ∧ w.cell? ⟨g5, 2, none⟩ = some x2 ∧ w.cell? ⟨g5, 3, none⟩ = some x3 ∧ w.cell? ⟨g5, 4, none⟩ = some x4 ∧ w.cell? ⟨g5, 5, none⟩ = some x5 ∧ w.cell? ⟨g5, 6, none⟩ = some x6 ∧ w.cell? ⟨g5, 7, none⟩ = some x7 := by
 obtain ⟨_, a0, a1, a2, a3⟩ := free4 h
 obtain ⟨_, r⟩ := free8 h5
 exact ⟨⟨a0, a1, a2, a3⟩, r⟩
theorem rfrom_mix (s : Hs) (w : World) :
  Calls Tryz.prog 169 #[.int .u64 (bits .xor .u64 s.a s.c)] w fun e w' => e = .returned (.agg #[.int .u8 s.out.x0, .int .u8 s.out.x1, .int .u8 s.out.x2, .int .u8 s.out.x3, .int .u8 s.out.x4, .int .u8 s.out.x5, .int .u8 s.out.x6, .int .u8 s.out.x7]) ∧ Below w.heap.size w w' := by
 rw [mix_int]; exact rfrom_any s.mix w (mix_lt s)
set_option maxRecDepth 100000 in
set_option maxHeartbeats 1000000 in
theorem outr_any (s : Hs) (w : World) :
  Calls Tryz.prog 145 #[.agg #[.int .u64 s.a, .int .u64 s.b, .int .u64 s.c, .int .u64 s.d]] w fun e w' => e = .returned (.agg #[.int .u8 s.out.x0, .int .u8 s.out.x1, .int .u8 s.out.x2, .int .u8 s.out.x3, .int .u8 s.out.x4, .int .u8 s.out.x5, .int .u8 s.out.x6, .int .u8 s.out.x7]) ∧ Below w.heap.size w w' := by
 go_enter Tryz.func145, Tryz.ntmps145
 go_wp2_with fail
 refine (rfrom_mix s _).mono ?_
 rintro e w1 ⟨rfl, hb1⟩
 have hbx1 := block_below (h_at (w := w.alloc (.cells #[.int .u64 s.a, .int .u64 s.b, .int .u64 s.c, .int .u64 s.d] 200)) (x := .cells #[.int .u8 0, .int .u8 0, .int .u8 0, .int .u8 0, .int .u8 0, .int .u8 0, .int .u8 0, .int .u8 0] 26 (0, 0)) (k := w.heap.size + 1) (by simp)) hb1 (by simp)
 obtain ⟨zf, r0, r1, r2, r3, r4, r5, r6, r7⟩ := free8 hbx1
 have Hbx := Lib.hid hbx1
 have Hbw := Lib.hid ((h_two w _ _).trans (hb1.mono (by simp; omega)))
 have hsz1 := hb1.size
 simp at hsz1
 clear hb1 hbx1
 generalize hd : s.out = d at *
 have Hd := Lib.hid hd
 clear hd
 go_wp2
 clear zf r0 r1 r2 r3 r4 r5 r6 r7
 have h8 := set8 Hbx.out (.int .u8 d.x0) (.int .u8 d.x1) (.int .u8 d.x2) (.int .u8 d.x3) (.int .u8 d.x4) (.int .u8 d.x5) (.int .u8 d.x6) (.int .u8 d.x7)
 have hg8 := grown_set8 w1 (w.heap.size + 1) (.int .u8 d.x0) (.int .u8 d.x1) (.int .u8 d.x2) (.int .u8 d.x3) (.int .u8 d.x4) (.int .u8 d.x5) (.int .u8 d.x6) (.int .u8 d.x7)
 generalize ((((((((w1.setCell ⟨w.heap.size + 1, 0, none⟩ (.int .u8 d.x0)).setCell ⟨w.heap.size + 1, 1, none⟩ (.int .u8 d.x1)).setCell ⟨w.heap.size + 1, 2, none⟩ (.int .u8 d.x2)).setCell ⟨w.heap.size + 1, 3, none⟩ (.int .u8 d.x3)).setCell ⟨w.heap.size + 1, 4, none⟩ (.int .u8 d.x4)).setCell ⟨w.heap.size + 1, 5, none⟩ (.int .u8 d.x5)).setCell ⟨w.heap.size + 1, 6, none⟩ (.int .u8 d.x6)).setCell ⟨w.heap.size + 1, 7, none⟩ (.int .u8 d.x7)) = w5 at *
 obtain ⟨zf, r0, r1, r2, r3, r4, r5, r6, r7⟩ := free8 h8
 have Hb2 := Lib.hid (Hbw.out.grown hg8 Hbw.out.size (fun k hk => by injection hk with hk; omega))
 clear h8 hg8
 refine bodyPost_ret (v := .agg #[.int .u8 d.x0, .int .u8 d.x1, .int .u8 d.x2, .int .u8 d.x3, .int .u8 d.x4, .int .u8 d.x5, .int .u8 d.x6, .int .u8 d.x7]) (by simp [results, Tryz.results145, go_sem, r0, r1, r2, r3, r4, r5, r6, r7]) rfl ⟨by rw [Hd.out], Hb2.out⟩
def slLen : Value → Nat
 | .slice _ n _ => n
 | _ => 0
def padN (l : List Nat) (j : Nat) : List Nat := l ++ [1] ++ List.replicate j 0
theorem padN_len (l : List Nat) (j : Nat) : (padN l j).length = l.length + 1 + j := by simp [padN]; omega
theorem padN_ok {l : List Nat} (h : ∀ x ∈ l, x < 256) (j : Nat) : ∀ x ∈ padN l j, x < 256 := by
 intro x hx
 unfold padN at hx
 rcases List.mem_append.1 hx with h1 | h1
 ·exact snoc_ok h x h1
 ·have := List.eq_of_mem_replicate h1; omega
theorem padN_snoc (l : List Nat) (j : Nat) : bv (padN l j) ++ [.int .u8 0] = bv (padN l (j + 1)) := by
 unfold padN bv
 rw [List.replicate_succ']
 simp
set_option maxRecDepth 100000 in
set_option maxHeartbeats 1000000 in
theorem hbytesr_any (s : Hs) (A : Option Addr) (n c : Nat) (l : List Nat) (w : World) (hr : Rd w w.heap.size 1 A n (bv l)) (hn : n ≤ 900000000) (hb : ∀ x ∈ l, x < 256) :
  Calls Tryz.prog 146 #[.agg #[.int .u64 s.a, .int .u64 s.b, .int .u64 s.c, .int .u64 s.d], .slice A n c] w fun e w' => e = .returned (.agg #[.int .u64 (s.bytes l).a, .int .u64 (s.bytes l).b, .int .u64 (s.bytes l).c, .int .u64 (s.bytes l).d]) ∧ Below w.heap.size w w' := by
 obtain ⟨i0, hi, hz0, hz1, hz2⟩ := info_parts info_u8
 have HI := Lib.hid (And.intro hi (And.intro hz0 (And.intro hz1 hz2))); clear hi hz0 hz1 hz2
 have hl : l.length = n := by have := hr.1; rw [bv_len] at this; omega
 have Hr := Lib.hid hr; have Hb := Lib.hid hb; have Hl := Lib.hid hl
 clear hr hb hl
 have hw0 := World.ownsRow_made (base := w.heap.size + 2) (e := 5) (size := 1) ((w.alloc (.cells #[.int .u64 s.a, .int .u64 s.b, .int .u64 s.c, .int .u64 s.d] 200)).alloc (.cells #[.int .u64 0, .int .u64 0, .int .u64 0, .int .u64 0] 200)) #[] 0 (by simp) (by decide) rfl
 rw [show ((w.alloc (.cells #[.int .u64 s.a, .int .u64 s.b, .int .u64 s.c, .int .u64 s.d] 200)).alloc (.cells #[.int .u64 0, .int .u64 0, .int .u64 0, .int .u64 0] 200)).heap.size = w.heap.size + 2 by simp] at hw0
 have Hown0 := Lib.hid hw0
 have HS0 : Hid ((((w.alloc (.cells #[.int .u64 s.a, .int .u64 s.b, .int .u64 s.c, .int .u64 s.d] 200)).alloc (.cells #[.int .u64 0, .int .u64 0, .int .u64 0, .int .u64 0] 200)).alloc (.cells #[] 5)).heap[w.heap.size]? = some (.cells #[.int .u64 s.a, .int .u64 s.b, .int .u64 s.c, .int .u64 s.d] 200 (0, 0))) := Lib.hid (block_alloc (block_alloc (heap_alloc_new w _) _) _)
 have HT0 : Hid ((((w.alloc (.cells #[.int .u64 s.a, .int .u64 s.b, .int .u64 s.c, .int .u64 s.d] 200)).alloc (.cells #[.int .u64 0, .int .u64 0, .int .u64 0, .int .u64 0] 200)).alloc (.cells #[] 5)).heap[w.heap.size + 1]? = some (.cells #[.int .u64 0, .int .u64 0, .int .u64 0, .int .u64 0] 200 (0, 0))) := Lib.hid (block_alloc (h_at (by simp)) _)
 have Hb0 : Hid (Below w.heap.size w (((w.alloc (.cells #[.int .u64 s.a, .int .u64 s.b, .int .u64 s.c, .int .u64 s.d] 200)).alloc (.cells #[.int .u64 0, .int .u64 0, .int .u64 0, .int .u64 0] 200)).alloc (.cells #[] 5))) := Lib.hid ((h_two w _ _).alloc (by simp; omega) _)
 have Hr0 := Lib.hid (Hr.out.below Hb0.out (Nat.le_refl _))
 have hni : (n : Int) ≤ 900000000 := by omega
 clear hw0
 generalize hw : (((w.alloc (.cells #[.int .u64 s.a, .int .u64 s.b, .int .u64 s.c, .int .u64 s.d] 200)).alloc (.cells #[.int .u64 0, .int .u64 0, .int .u64 0, .int .u64 0] 200)).alloc (.cells #[] 5)) = w0 at *
 have Hw := Lib.hid hw
 clear hw
 have hz0 : w0.heap.size = w.heap.size + 1 + 1 + 1 := by rw [← Hw.out]; simp
 have Hz0 := Lib.hid hz0
 have hz1 : w.heap.size + 2 ≤ w0.heap.size := by omega
 clear hz0
 go_enter Tryz.func146, Tryz.ntmps146
 go_wp2_with (first
  | (at_builtin; rw [Hw.out]; go_must (refine wpList_append_rd w0 (by rfl) _ _ 46 (by rfl) (w.heap.size + 2) 5 i0 (.int .u8 0) 1 1 Tryz.underlying46 HI.out rfl (by decide) _ _ _ (by rfl) Hown0.out w.heap.size A n c (bv l) (by rfl) Hr0.out (bv_one l) (by omega) (by omega) (by omega) ?_); intro v1 w1 hown1 hb1; have Hown1 := Lib.hid hown1; have HS1 := Lib.hid (block_below HS0.out hb1 (by omega)); have HT1 := Lib.hid (block_below HT0.out hb1 (by omega)); have Hb1 := Lib.hid (Hb0.out.trans (hb1.mono (by omega))); have hsz1 := hb1.size; clear hown1 hb1)
  | (at_builtin; go_must (refine wpList_append_lit w1 (by rfl) _ _ 46 (by rfl) (w.heap.size + 2) 5 i0 (.int .u8 0) 1 1 Tryz.underlying46 HI.out rfl (by decide) _ _ _ (by rfl) Hown1.out 1 1 #[.int .u8 1] 5 (by rfl) rfl (by simp [Value.oneCell']) (by omega) (by omega) (by omega) ?_); intro v2 w2 hown2 hb2; have Hown2 := Lib.hid hown2; have HS2 := Lib.hid (block_below HS1.out hb2 (by omega)); have HT2 := Lib.hid (block_below HT1.out hb2 (by omega)); have Hb2 := Lib.hid (Hb1.out.trans (hb2.mono (by omega))); have hsz2 := hb2.size; clear hown2 hb2))
 obtain ⟨A2, c2, hv2⟩ := own_form Hown2.out
 subst hv2
 simp only [Nat.zero_add]
 have ho2 : w2.ownsRow (w.heap.size + 2) 5 1 (.slice A2 (n + 1) c2) (n + 1) (bv (padN l 0)) := by
  have := Hown2.out
  unfold padN; simpa [bv] using this
 have HO2 := Lib.hid ho2
 clear ho2 Hown2 Hown0 Hown1 HS0 HS1 HT0 HT1 Hb0 Hb1 Hr0
 have hsz3 : w.heap.size + 2 ≤ w2.heap.size := by omega
 clear hsz1 hsz2 hz1
 go_loopw [5] (fun v wr => ∃ (j m : Nat) (A' : Option Addr) (c' : Nat), v = .slice A' m c' ∧ Hid (m ≤ 8 * (n / 8 + 1)) ∧ Hid (w.heap.size + 2 ≤ wr.heap.size) ∧ Hid (m = n + 1 + j) ∧ Hid (wr.ownsRow (w.heap.size + 2) 5 1 (.slice A' m c') m (bv (padN l j))) ∧
  Hid (wr.heap[w.heap.size]? = some (.cells #[.int .u64 s.a, .int .u64 s.b, .int .u64 s.c, .int .u64 s.d] 200 (0, 0))) ∧ Hid (wr.heap[w.heap.size + 1]? = some (.cells #[.int .u64 0, .int .u64 0, .int .u64 0, .int .u64 0] 200 (0, 0))) ∧ Hid (Below w.heap.size w wr)) (fun v _ => 8 * (n / 8 + 1) - slLen v)
 case atStart => exact ⟨0, n + 1, A2, c2, rfl, Lib.hid (by omega), Lib.hid hsz3, Lib.hid rfl, HO2, HS2, HT2, Hb2⟩
 case round =>
  obtain ⟨j, m, A', c', rfl, HmM0, Hsz, Hm, HO, HS, HT, Hb'⟩ := hrel
  have hmM := HmM0.out; have hsz := Hsz.out
  have hmi : (m : Int) ≤ 1000000000 := by omega
  by_cases hm : m % 8 = 0
  ·have hd : ((m : Int) % 8 != 0) = false := by simp; omega
   have hmM2 : m = 8 * (n / 8 + 1) := by have := Hm.out; omega
   have HmM := Lib.hid hmM2
   have Hm0 := Lib.hid hm
   clear hmM2 hm
   go_wp2
   obtain ⟨wo, rfl⟩ : ∃ wo : World, wo = wr := ⟨_, rfl⟩
   go_loopw [6] (fun i wr => ∃ (k i0 : Nat), i = .int .i64 i0 ∧ Hid (i0 ≤ m) ∧ Hid (w.heap.size + 2 ≤ wr.heap.size) ∧ Hid (i0 = 8 * k) ∧ Hid (wr.ownsRow (w.heap.size + 2) 5 1 (.slice A' m c') m (bv (padN l j))) ∧
    Hid (wr.heap[w.heap.size]? = some (.cells #[.int .u64 (s.eat (padN l j) k).a, .int .u64 (s.eat (padN l j) k).b, .int .u64 (s.eat (padN l j) k).c, .int .u64 (s.eat (padN l j) k).d] 200 (0, 0))) ∧ Hid (wr.heap[w.heap.size + 1]? = some (.cells #[.int .u64 0, .int .u64 0, .int .u64 0, .int .u64 0] 200 (0, 0))) ∧ Hid (Below w.heap.size w wr)) (fun i _ => m - (intOf i).toNat)
   case atStart => exact ⟨0, 0, rfl, Lib.hid (by omega), Hsz, Lib.hid rfl, HO, HS, HT, Hb'⟩
   case round =>
    obtain ⟨k, i0', rfl, Hi0, Hsz4, Hi, HO4, HS4, HT4, Hb4⟩ := hrel
    have hi0 := Hi0.out; have hsz4 := Hsz4.out
    have HB4 := Lib.hid (free4 HS4.out)
    by_cases hlt : i0' < m
    ·have hd2 : decide ((i0' : Int) < (m : Int)) = true := decide_eq_true (by omega)
     have hi8 : i0' + 8 ≤ m := by have := Hi.out; have := HmM.out; omega
     have hi8i : (i0' : Int) + 8 ≤ (m : Int) := by omega
     obtain ⟨b, rfl, hbb, hbl, hc8⟩ := own_at8 (x := padN l j) HO4.out hi8
     have c0 := hc8 0 (by omega); have c1 := hc8 1 (by omega); have c2 := hc8 2 (by omega); have c3 := hc8 3 (by omega); have c4 := hc8 4 (by omega); have c5 := hc8 5 (by omega); have c6 := hc8 6 (by omega); have c7 := hc8 7 (by omega)
     have Hchunk : Hid (chunk (padN l j) k = ⟨(padN l j).getD (i0' + 0) 0, (padN l j).getD (i0' + 1) 0, (padN l j).getD (i0' + 2) 0, (padN l j).getD (i0' + 3) 0, (padN l j).getD (i0' + 4) 0, (padN l j).getD (i0' + 5) 0, (padN l j).getD (i0' + 6) 0, (padN l j).getD (i0' + 7) 0⟩) := Lib.hid (by rw [Hi.out]; rfl)
     have Hok : Hid ((chunk (padN l j) k).ok) := Lib.hid (chunk_ok (padN_ok Hb.out j) k)
     have Heat : Hid (s.eat (padN l j) (k + 1) = (s.eat (padN l j) k).take ((chunk (padN l j) k).num : Int)) := Lib.hid rfl
     simp only [Nat.add_zero] at c0
     clear hc8
     generalize (padN l j).getD (i0' + 0) 0 = x0 at *
     generalize (padN l j).getD (i0' + 1) 0 = x1 at *
     generalize (padN l j).getD (i0' + 2) 0 = x2 at *
     generalize (padN l j).getD (i0' + 3) 0 = x3 at *
     generalize (padN l j).getD (i0' + 4) 0 = x4 at *
     generalize (padN l j).getD (i0' + 5) 0 = x5 at *
     generalize (padN l j).getD (i0' + 6) 0 = x6 at *
     generalize (padN l j).getD (i0' + 7) 0 = x7 at *
     go_wp2
     refine wp_loop_rounds 9 ?_
     iterate 8 (rw [rounds_succ]; go_wp2)
     have hS5 := block_alloc HS4.out (.cells #[.int .u8 (D8.mk x0 x1 x2 x3 x4 x5 x6 x7).x0, .int .u8 (D8.mk x0 x1 x2 x3 x4 x5 x6 x7).x1, .int .u8 (D8.mk x0 x1 x2 x3 x4 x5 x6 x7).x2, .int .u8 (D8.mk x0 x1 x2 x3 x4 x5 x6 x7).x3, .int .u8 (D8.mk x0 x1 x2 x3 x4 x5 x6 x7).x4, .int .u8 (D8.mk x0 x1 x2 x3 x4 x5 x6 x7).x5, .int .u8 (D8.mk x0 x1 x2 x3 x4 x5 x6 x7).x6, .int .u8 (D8.mk x0 x1 x2 x3 x4 x5 x6 x7).x7] 26)
     have hT5 := block_alloc HT4.out (.cells #[.int .u8 (D8.mk x0 x1 x2 x3 x4 x5 x6 x7).x0, .int .u8 (D8.mk x0 x1 x2 x3 x4 x5 x6 x7).x1, .int .u8 (D8.mk x0 x1 x2 x3 x4 x5 x6 x7).x2, .int .u8 (D8.mk x0 x1 x2 x3 x4 x5 x6 x7).x3, .int .u8 (D8.mk x0 x1 x2 x3 x4 x5 x6 x7).x4, .int .u8 (D8.mk x0 x1 x2 x3 x4 x5 x6 x7).x5, .int .u8 (D8.mk x0 x1 x2 x3 x4 x5 x6 x7).x6, .int .u8 (D8.mk x0 x1 x2 x3 x4 x5 x6 x7).x7] 26)
     have hD5 := heap_alloc_new wr (.cells #[.int .u8 (D8.mk x0 x1 x2 x3 x4 x5 x6 x7).x0, .int .u8 (D8.mk x0 x1 x2 x3 x4 x5 x6 x7).x1, .int .u8 (D8.mk x0 x1 x2 x3 x4 x5 x6 x7).x2, .int .u8 (D8.mk x0 x1 x2 x3 x4 x5 x6 x7).x3, .int .u8 (D8.mk x0 x1 x2 x3 x4 x5 x6 x7).x4, .int .u8 (D8.mk x0 x1 x2 x3 x4 x5 x6 x7).x5, .int .u8 (D8.mk x0 x1 x2 x3 x4 x5 x6 x7).x6, .int .u8 (D8.mk x0 x1 x2 x3 x4 x5 x6 x7).x7] 26)
     have hO5 := HO4.out.alloc (.cells #[.int .u8 (D8.mk x0 x1 x2 x3 x4 x5 x6 x7).x0, .int .u8 (D8.mk x0 x1 x2 x3 x4 x5 x6 x7).x1, .int .u8 (D8.mk x0 x1 x2 x3 x4 x5 x6 x7).x2, .int .u8 (D8.mk x0 x1 x2 x3 x4 x5 x6 x7).x3, .int .u8 (D8.mk x0 x1 x2 x3 x4 x5 x6 x7).x4, .int .u8 (D8.mk x0 x1 x2 x3 x4 x5 x6 x7).x5, .int .u8 (D8.mk x0 x1 x2 x3 x4 x5 x6 x7).x6, .int .u8 (D8.mk x0 x1 x2 x3 x4 x5 x6 x7).x7] 26)
     have hb5 := Hb4.out.alloc (by omega) (.cells #[.int .u8 (D8.mk x0 x1 x2 x3 x4 x5 x6 x7).x0, .int .u8 (D8.mk x0 x1 x2 x3 x4 x5 x6 x7).x1, .int .u8 (D8.mk x0 x1 x2 x3 x4 x5 x6 x7).x2, .int .u8 (D8.mk x0 x1 x2 x3 x4 x5 x6 x7).x3, .int .u8 (D8.mk x0 x1 x2 x3 x4 x5 x6 x7).x4, .int .u8 (D8.mk x0 x1 x2 x3 x4 x5 x6 x7).x5, .int .u8 (D8.mk x0 x1 x2 x3 x4 x5 x6 x7).x6, .int .u8 (D8.mk x0 x1 x2 x3 x4 x5 x6 x7).x7] 26)
     have hsz5 : w.heap.size + 2 ≤ (wr.alloc (.cells #[.int .u8 (D8.mk x0 x1 x2 x3 x4 x5 x6 x7).x0, .int .u8 (D8.mk x0 x1 x2 x3 x4 x5 x6 x7).x1, .int .u8 (D8.mk x0 x1 x2 x3 x4 x5 x6 x7).x2, .int .u8 (D8.mk x0 x1 x2 x3 x4 x5 x6 x7).x3, .int .u8 (D8.mk x0 x1 x2 x3 x4 x5 x6 x7).x4, .int .u8 (D8.mk x0 x1 x2 x3 x4 x5 x6 x7).x5, .int .u8 (D8.mk x0 x1 x2 x3 x4 x5 x6 x7).x6, .int .u8 (D8.mk x0 x1 x2 x3 x4 x5 x6 x7).x7] 26)).heap.size := by simp; omega
     simp only at hS5 hT5 hD5 hO5 hb5 hsz5
     generalize wr.alloc (.cells #[.int .u8 x0, .int .u8 x1, .int .u8 x2, .int .u8 x3, .int .u8 x4, .int .u8 x5, .int .u8 x6, .int .u8 x7] 26) = w5 at *
     obtain ⟨sf, s0, s1, s2, s3⟩ := free4 hS5
     obtain ⟨zf, r0, r1, r2, r3, r4, r5, r6, r7⟩ := free8 hD5
     have HD5 := Lib.hid hD5
     have HS5 := Lib.hid hS5; have HT5 := Lib.hid hT5; have HO5 := Lib.hid hO5; have Hb5 := Lib.hid hb5
     clear hS5 hT5 hD5 hO5 hb5 c0 c1 c2 c3 c4 c5 c6 c7
     have Hg5 : Hid (wr.heap.size < w5.heap.size) := Lib.hid (block_lt HD5.out)
     generalize wr.heap.size = g5 at *
     generalize hq : s.eat (padN l j) k = q at *
     have Hq := Lib.hid hq
     clear hq
     rw [rounds_succ]
     go_wp2
     have Hb5d := Lib.hid Hb5.out.drew
     clear r0 r1 r2 r3 r4 r5 r6 r7 zf s0 s1 s2 s3 sf
     refine wp_region_held_drew (S := fun _ => True) (by kernel_rfl) trivial (fun _ => ?_)
     have HE : ∀ w9 : World, Hid (w9.heap[w.heap.size]? = some (.cells #[.int .u64 (s.eat (padN l j) (k + 1)).a, .int .u64 (s.eat (padN l j) (k + 1)).b, .int .u64 (s.eat (padN l j) (k + 1)).c, .int .u64 (s.eat (padN l j) (k + 1)).d] 200 (0, 0))) → Hid (w9.heap[w.heap.size + 1]? = some (.cells #[.int .u64 0, .int .u64 0, .int .u64 0, .int .u64 0] 200 (0, 0))) → Hid (w9.ownsRow (w.heap.size + 2) 5 1 (.slice (some ⟨b, 0, none⟩) m c') m (bv (padN l j))) → Hid (Below w.heap.size w w9) → Hid (w.heap.size + 2 ≤ w9.heap.size) → True := fun _ _ _ _ _ _ => trivial
     refine wpAnyH_ready (rs := [0, 1]) (by kernel_rfl) (by simp) ?_
     refine AllReadyH.cons rfl (fun K hK => ?_) (AllReadyH.cons rfl (fun K hK => ?_) AllReadyH.nil)
     ·
      have ⟨sf, s0, s1, s2, s3⟩ := free4 HS5.out
      rw [if_pos (by kernel_rfl)]
      go_simp
      refine hK.out _ _ trivial (fun _ => ?_)
      clear hK K
      clear sf s0 s1 s2 s3
      refine wpAnyH_ready (rs := [1]) (by kernel_rfl) (by simp) ?_
      refine AllReadyH.cons rfl (fun K hK => ?_) AllReadyH.nil
      have ⟨zf, r0, r1, r2, r3, r4, r5, r6, r7⟩ := free8 HD5.out
      rw [if_pos (by kernel_rfl)]
      go_simp
      refine hK.out _ _ trivial (fun _ => ?_)
      clear hK K
      clear zf r0 r1 r2 r3 r4 r5 r6 r7
      refine wpAnyH_ready (rs := [2]) (by kernel_rfl) (by simp) ?_
      refine AllReadyH.cons rfl (fun K hK => ?_) AllReadyH.nil
      rw [if_pos (by kernel_rfl)]
      go_simp
      refine (rnum_any (D8.mk x0 x1 x2 x3 x4 x5 x6 x7) _ (by rw [← Hchunk.out]; exact Hok.out)).mono ?_
      rintro e w6 ⟨rfl, hb6d⟩
      have hb6 : Below w5.heap.size w5 w6 := ⟨hb6d.os, hb6d.tape, hb6d.output, hb6d.size, hb6d.block⟩
      rw [← Hchunk.out]
      have HS6 := Lib.hid (block_below HS5.out hb6 (block_lt HS5.out)); have HT6 := Lib.hid (block_below HT5.out hb6 (block_lt HT5.out))
      have HO6 := Lib.hid (own_below HO5.out hb6); have Hb6 := Lib.hid (Hb5.out.trans (hb6.mono (by omega)))
      have hsz6 := hb6.size
      clear hb6 hb6d
      refine hK.out _ _ trivial (fun _ => ?_)
      clear hK K
      refine wpAnyH_ready (rs := [3]) (by kernel_rfl) (by simp) ?_
      refine AllReadyH.cons rfl (fun K hK => ?_) AllReadyH.nil
      rw [if_pos (by kernel_rfl)]
      go_simp
      refine (in_any q _ _).mono ?_
      rintro e w7 ⟨rfl, hb7⟩
      rw [← Heat.out]
      have HS7 := Lib.hid (block_below HS6.out hb7 (block_lt HS6.out)); have HT7 := Lib.hid (block_below HT6.out hb7 (block_lt HT6.out))
      have HO7 := Lib.hid (own_below HO6.out hb7); have Hb7 := Lib.hid (Hb6.out.trans (hb7.mono (by omega)))
      have hsz7 := hb7.size
      clear hb7
      refine hK.out _ _ trivial (fun _ => ?_)
      clear hK K
      refine wpAnyH_ready (rs := [4]) (by kernel_rfl) (by simp) ?_
      refine AllReadyH.cons rfl (fun K hK => ?_) AllReadyH.nil
      obtain ⟨sf, s0, s1, s2, s3⟩ := free4 HS7.out
      generalize hq2 : s.eat (padN l j) (k + 1) = q2 at *
      have Hq2 := Lib.hid hq2
      clear hq2
      rw [if_pos (by kernel_rfl)]
      go_simp
      clear s0 s1 s2 s3 sf
      have h9 := set4 HS7.out (.int .u64 q2.a) (.int .u64 q2.b) (.int .u64 q2.c) (.int .u64 q2.d)
      have hg9 := grown_set4 w7 w.heap.size (.int .u64 q2.a) (.int .u64 q2.b) (.int .u64 q2.c) (.int .u64 q2.d)
      generalize (((w7.setCell ⟨w.heap.size, 0, none⟩ (.int .u64 q2.a)).setCell ⟨w.heap.size, 1, none⟩ (.int .u64 q2.b)).setCell ⟨w.heap.size, 2, none⟩ (.int .u64 q2.c)).setCell ⟨w.heap.size, 3, none⟩ (.int .u64 q2.d) = w9 at *
      have HS9 := Lib.hid h9
      have HT9 := Lib.hid (block_grown HT7.out hg9 (by simp))
      have HO9 := Lib.hid (HO7.out.kept hg9 (.inr (by simp only [Value.ownBlock, ne_eq, Option.some.injEq]; omega)))
      have Hb9 := Lib.hid (Hb7.out.grown hg9 Hb7.out.size (fun k hk => by injection hk with hk; omega))
      have Hsz9 : Hid (w.heap.size + 2 ≤ w9.heap.size) := Lib.hid (by have := hg9.size; omega)
      clear h9 hg9
      refine hK.out _ _ trivial (fun _ => ?_)
      clear hK K
      refine wpAnyH_done (by kernel_rfl) ?_ _
      go_wp2
      go_roundw
      case rel =>
       exact ⟨k + 1, i0' + 8, by go_num, Lib.hid hi8, Hsz9, Lib.hid (by rw [Hi.out]; omega), HO9, by rw [Hq2.out]; exact HS9, HT9, Hb9⟩
      case measure => simp [intOf]; omega
     ·
      have ⟨zf, r0, r1, r2, r3, r4, r5, r6, r7⟩ := free8 HD5.out
      rw [if_pos (by kernel_rfl)]
      go_simp
      refine hK.out _ _ trivial (fun _ => ?_)
      clear hK K
      clear zf r0 r1 r2 r3 r4 r5 r6 r7
      refine wpAnyH_ready (rs := [0, 2]) (by kernel_rfl) (by simp) ?_
      refine AllReadyH.cons rfl (fun K hK => ?_) (AllReadyH.cons rfl (fun K hK => ?_) AllReadyH.nil)
      ·
       have ⟨sf, s0, s1, s2, s3⟩ := free4 HS5.out
       rw [if_pos (by kernel_rfl)]
       go_simp
       refine hK.out _ _ trivial (fun _ => ?_)
       clear hK K
       clear sf s0 s1 s2 s3
       refine wpAnyH_ready (rs := [2]) (by kernel_rfl) (by simp) ?_
       refine AllReadyH.cons rfl (fun K hK => ?_) AllReadyH.nil
       rw [if_pos (by kernel_rfl)]
       go_simp
       refine (rnum_any (D8.mk x0 x1 x2 x3 x4 x5 x6 x7) _ (by rw [← Hchunk.out]; exact Hok.out)).mono ?_
       rintro e w6 ⟨rfl, hb6d⟩
       have hb6 : Below w5.heap.size w5 w6 := ⟨hb6d.os, hb6d.tape, hb6d.output, hb6d.size, hb6d.block⟩
       rw [← Hchunk.out]
       have HS6 := Lib.hid (block_below HS5.out hb6 (block_lt HS5.out)); have HT6 := Lib.hid (block_below HT5.out hb6 (block_lt HT5.out))
       have HO6 := Lib.hid (own_below HO5.out hb6); have Hb6 := Lib.hid (Hb5.out.trans (hb6.mono (by omega)))
       have hsz6 := hb6.size
       clear hb6 hb6d
       refine hK.out _ _ trivial (fun _ => ?_)
       clear hK K
       refine wpAnyH_ready (rs := [3]) (by kernel_rfl) (by simp) ?_
       refine AllReadyH.cons rfl (fun K hK => ?_) AllReadyH.nil
       rw [if_pos (by kernel_rfl)]
       go_simp
       refine (in_any q _ _).mono ?_
       rintro e w7 ⟨rfl, hb7⟩
       rw [← Heat.out]
       have HS7 := Lib.hid (block_below HS6.out hb7 (block_lt HS6.out)); have HT7 := Lib.hid (block_below HT6.out hb7 (block_lt HT6.out))
       have HO7 := Lib.hid (own_below HO6.out hb7); have Hb7 := Lib.hid (Hb6.out.trans (hb7.mono (by omega)))
       have hsz7 := hb7.size
       clear hb7
       refine hK.out _ _ trivial (fun _ => ?_)
       clear hK K
       refine wpAnyH_ready (rs := [4]) (by kernel_rfl) (by simp) ?_
       refine AllReadyH.cons rfl (fun K hK => ?_) AllReadyH.nil
       obtain ⟨sf, s0, s1, s2, s3⟩ := free4 HS7.out
       generalize hq2 : s.eat (padN l j) (k + 1) = q2 at *
       have Hq2 := Lib.hid hq2
       clear hq2
       rw [if_pos (by kernel_rfl)]
       go_simp
       clear s0 s1 s2 s3 sf
       have h9 := set4 HS7.out (.int .u64 q2.a) (.int .u64 q2.b) (.int .u64 q2.c) (.int .u64 q2.d)
       have hg9 := grown_set4 w7 w.heap.size (.int .u64 q2.a) (.int .u64 q2.b) (.int .u64 q2.c) (.int .u64 q2.d)
       generalize (((w7.setCell ⟨w.heap.size, 0, none⟩ (.int .u64 q2.a)).setCell ⟨w.heap.size, 1, none⟩ (.int .u64 q2.b)).setCell ⟨w.heap.size, 2, none⟩ (.int .u64 q2.c)).setCell ⟨w.heap.size, 3, none⟩ (.int .u64 q2.d) = w9 at *
       have HS9 := Lib.hid h9
       have HT9 := Lib.hid (block_grown HT7.out hg9 (by simp))
       have HO9 := Lib.hid (HO7.out.kept hg9 (.inr (by simp only [Value.ownBlock, ne_eq, Option.some.injEq]; omega)))
       have Hb9 := Lib.hid (Hb7.out.grown hg9 Hb7.out.size (fun k hk => by injection hk with hk; omega))
       have Hsz9 : Hid (w.heap.size + 2 ≤ w9.heap.size) := Lib.hid (by have := hg9.size; omega)
       clear h9 hg9
       refine hK.out _ _ trivial (fun _ => ?_)
       clear hK K
       refine wpAnyH_done (by kernel_rfl) ?_ _
       go_wp2
       go_roundw
       case rel =>
        exact ⟨k + 1, i0' + 8, by go_num, Lib.hid hi8, Hsz9, Lib.hid (by rw [Hi.out]; omega), HO9, by rw [Hq2.out]; exact HS9, HT9, Hb9⟩
       case measure => simp [intOf]; omega
      ·
       rw [if_pos (by kernel_rfl)]
       go_simp
       refine (rnum_any (D8.mk x0 x1 x2 x3 x4 x5 x6 x7) _ (by rw [← Hchunk.out]; exact Hok.out)).mono ?_
       rintro e w6 ⟨rfl, hb6d⟩
       have hb6 : Below w5.heap.size w5 w6 := ⟨hb6d.os, hb6d.tape, hb6d.output, hb6d.size, hb6d.block⟩
       rw [← Hchunk.out]
       have HS6 := Lib.hid (block_below HS5.out hb6 (block_lt HS5.out)); have HT6 := Lib.hid (block_below HT5.out hb6 (block_lt HT5.out))
       have HO6 := Lib.hid (own_below HO5.out hb6); have Hb6 := Lib.hid (Hb5.out.trans (hb6.mono (by omega)))
       have hsz6 := hb6.size
       clear hb6 hb6d
       refine hK.out _ _ trivial (fun _ => ?_)
       clear hK K
       refine wpAnyH_ready (rs := [0]) (by kernel_rfl) (by simp) ?_
       refine AllReadyH.cons rfl (fun K hK => ?_) AllReadyH.nil
       have ⟨sf, s0, s1, s2, s3⟩ := free4 HS6.out
       rw [if_pos (by kernel_rfl)]
       go_simp
       refine hK.out _ _ trivial (fun _ => ?_)
       clear hK K
       clear sf s0 s1 s2 s3
       refine wpAnyH_ready (rs := [3]) (by kernel_rfl) (by simp) ?_
       refine AllReadyH.cons rfl (fun K hK => ?_) AllReadyH.nil
       rw [if_pos (by kernel_rfl)]
       go_simp
       refine (in_any q _ _).mono ?_
       rintro e w7 ⟨rfl, hb7⟩
       rw [← Heat.out]
       have HS7 := Lib.hid (block_below HS6.out hb7 (block_lt HS6.out)); have HT7 := Lib.hid (block_below HT6.out hb7 (block_lt HT6.out))
       have HO7 := Lib.hid (own_below HO6.out hb7); have Hb7 := Lib.hid (Hb6.out.trans (hb7.mono (by omega)))
       have hsz7 := hb7.size
       clear hb7
       refine hK.out _ _ trivial (fun _ => ?_)
       clear hK K
       refine wpAnyH_ready (rs := [4]) (by kernel_rfl) (by simp) ?_
       refine AllReadyH.cons rfl (fun K hK => ?_) AllReadyH.nil
       obtain ⟨sf, s0, s1, s2, s3⟩ := free4 HS7.out
       generalize hq2 : s.eat (padN l j) (k + 1) = q2 at *
       have Hq2 := Lib.hid hq2
       clear hq2
       rw [if_pos (by kernel_rfl)]
       go_simp
       clear s0 s1 s2 s3 sf
       have h9 := set4 HS7.out (.int .u64 q2.a) (.int .u64 q2.b) (.int .u64 q2.c) (.int .u64 q2.d)
       have hg9 := grown_set4 w7 w.heap.size (.int .u64 q2.a) (.int .u64 q2.b) (.int .u64 q2.c) (.int .u64 q2.d)
       generalize (((w7.setCell ⟨w.heap.size, 0, none⟩ (.int .u64 q2.a)).setCell ⟨w.heap.size, 1, none⟩ (.int .u64 q2.b)).setCell ⟨w.heap.size, 2, none⟩ (.int .u64 q2.c)).setCell ⟨w.heap.size, 3, none⟩ (.int .u64 q2.d) = w9 at *
       have HS9 := Lib.hid h9
       have HT9 := Lib.hid (block_grown HT7.out hg9 (by simp))
       have HO9 := Lib.hid (HO7.out.kept hg9 (.inr (by simp only [Value.ownBlock, ne_eq, Option.some.injEq]; omega)))
       have Hb9 := Lib.hid (Hb7.out.grown hg9 Hb7.out.size (fun k hk => by injection hk with hk; omega))
       have Hsz9 : Hid (w.heap.size + 2 ≤ w9.heap.size) := Lib.hid (by have := hg9.size; omega)
       clear h9 hg9
       refine hK.out _ _ trivial (fun _ => ?_)
       clear hK K
       refine wpAnyH_done (by kernel_rfl) ?_ _
       go_wp2
       go_roundw
       case rel =>
        exact ⟨k + 1, i0' + 8, by go_num, Lib.hid hi8, Hsz9, Lib.hid (by rw [Hi.out]; omega), HO9, by rw [Hq2.out]; exact HS9, HT9, Hb9⟩
       case measure => simp [intOf]; omega
    ·have hd2 : decide ((i0' : Int) < (m : Int)) = false := decide_eq_false (by omega)
     obtain ⟨sf, s0, s1, s2, s3⟩ := free4 HS4.out
     have Hfin : Hid ((s.eat (padN l j) k).take (n : Int) = s.bytes l) := Lib.hid (by
      have : k = n / 8 + 1 := by have := Hi.out; have := HmM.out; omega
      subst this
      unfold padN
      rw [eat_zeros]
      unfold Hs.bytes
      rw [Hl.out])
     generalize s.eat (padN l j) k = q at *
     go_wp2_with fail
     refine (in_any q _ _).mono ?_
     rintro e w7 ⟨rfl, hb7⟩
     rw [Hfin.out]
     have HT7 := Lib.hid (block_below HT4.out hb7 (block_lt HT4.out))
     have Hb7 := Lib.hid (Hb4.out.trans (hb7.mono (by omega)))
     have hsz7 := hb7.size
     clear hb7 s0 s1 s2 s3 sf
     generalize hq2 : s.bytes l = q2 at *
     have Hq2 := Lib.hid hq2
     clear hq2
     obtain ⟨sf, s0, s1, s2, s3⟩ := free4 HT7.out
     go_wp2
     clear s0 s1 s2 s3 sf
     have h9 := set4 HT7.out (.int .u64 q2.a) (.int .u64 q2.b) (.int .u64 q2.c) (.int .u64 q2.d)
     have hg9 := grown_set4 w7 (w.heap.size + 1) (.int .u64 q2.a) (.int .u64 q2.b) (.int .u64 q2.c) (.int .u64 q2.d)
     generalize (((w7.setCell ⟨w.heap.size + 1, 0, none⟩ (.int .u64 q2.a)).setCell ⟨w.heap.size + 1, 1, none⟩ (.int .u64 q2.b)).setCell ⟨w.heap.size + 1, 2, none⟩ (.int .u64 q2.c)).setCell ⟨w.heap.size + 1, 3, none⟩ (.int .u64 q2.d) = w9 at *
     obtain ⟨sf, s0, s1, s2, s3⟩ := free4 h9
     have Hb9 := Lib.hid (Hb7.out.grown hg9 Hb7.out.size (fun k hk => by injection hk with hk; omega))
     clear h9 hg9
     refine bodyPost_ret (v := .agg #[.int .u64 q2.a, .int .u64 q2.b, .int .u64 q2.c, .int .u64 q2.d]) (by simp [results, Tryz.results146, go_sem, s0, s1, s2, s3]) rfl ⟨by rw [Hq2.out], Hb9.out⟩
  ·have hd : ((m : Int) % 8 != 0) = true := by simp; omega
   have hm7 : m + 1 ≤ 8 * (n / 8 + 1) := by omega
   go_wp2_with (at_builtin; go_must (refine wpList_append_lit wr (by rfl) _ _ 46 (by rfl) (w.heap.size + 2) 5 i0 (.int .u8 0) 1 1 Tryz.underlying46 HI.out rfl (by decide) _ _ _ (by rfl) HO.out 1 1 #[.int .u8 0] 5 (by rfl) rfl (by simp [Value.oneCell']) (by omega) (by omega) (by omega) ?_); intro v4 w4 hown4 hb4; have Hown4 := Lib.hid hown4; have HS4 := Lib.hid (block_below HS.out hb4 (by omega)); have HT4 := Lib.hid (block_below HT.out hb4 (by omega)); have Hb4 := Lib.hid (Hb'.out.trans (hb4.mono (by omega))); have hsz4 := hb4.size; clear hown4 hb4)
   obtain ⟨A4, c4, rfl⟩ := own_form Hown4.out
   go_roundw
   case rel =>
    exact ⟨j + 1, m + 1, A4, c4, rfl, Lib.hid hm7, Lib.hid (by omega), Lib.hid (by rw [Hm.out]; omega), (by have := Hown4.out; rw [padN_snoc] at this; exact Lib.hid this), HS4, HT4, Hb4⟩
   case measure => simp [slLen]; omega
set_option maxRecDepth 100000 in
theorem ofr_any (A : Option Addr) (n c : Nat) (l : List Nat) (w : World) (hr : Rd w w.heap.size 1 A n (bv l)) (hn : n ≤ 900000000) (hb : ∀ x ∈ l, x < 256) :
  Calls Tryz.prog 92 #[.slice A n c] w fun e w' => e = .returned (.agg #[.int .u8 (hashOf l).x0, .int .u8 (hashOf l).x1, .int .u8 (hashOf l).x2, .int .u8 (hashOf l).x3, .int .u8 (hashOf l).x4, .int .u8 (hashOf l).x5, .int .u8 (hashOf l).x6, .int .u8 (hashOf l).x7]) ∧ Below w.heap.size w w' := by
 have Hr := Lib.hid hr; have Hb := Lib.hid hb
 clear hr hb
 have HX : Hid ((w.alloc (.cells #[.int .u8 0, .int .u8 0, .int .u8 0, .int .u8 0, .int .u8 0, .int .u8 0, .int .u8 0, .int .u8 0] 26)).heap[w.heap.size]? = some (.cells #[.int .u8 0, .int .u8 0, .int .u8 0, .int .u8 0, .int .u8 0, .int .u8 0, .int .u8 0, .int .u8 0] 26 (0, 0))) := heap_alloc_new w _
 go_enter Tryz.func92, Tryz.ntmps92
 go_wp2_with fail
 refine (beginr_any 1 _).mono ?_
 rintro e w1 ⟨rfl, hb1⟩
 have Hbx1 := Lib.hid (block_below HX.out hb1 (by simp))
 have Hb1 := Lib.hid ((h_one w (.cells #[.int .u8 0, .int .u8 0, .int .u8 0, .int .u8 0, .int .u8 0, .int .u8 0, .int .u8 0, .int .u8 0] 26)).trans (hb1.mono (by simp)))
 have hsz1 := hb1.size
 simp at hsz1
 clear hb1
 generalize hs0 : Hs.begin 1 = s0 at *
 have Hs0 := Lib.hid hs0
 clear hs0
 go_wp2_with fail
 refine (hbytesr_any s0 A n c l w1 ((Hr.out.below Hb1.out (Nat.le_refl _)).more Hb1.out.size) hn Hb.out).mono ?_
 rintro e w3 ⟨rfl, hb3⟩
 have Hb3 := Lib.hid (Hb1.out.trans (hb3.mono Hb1.out.size))
 have Hbx3 := Lib.hid (block_below Hbx1.out hb3 (block_lt Hbx1.out))
 have hsz3 := hb3.size
 clear hb3
 go_wp2_with fail
 refine (outr_any (s0.bytes l) _).mono ?_
 rintro e w4 ⟨rfl, hb4⟩
 have hbx4 := block_below Hbx3.out hb4 (block_lt Hbx3.out)
 obtain ⟨zf, r0, r1, r2, r3, r4, r5, r6, r7⟩ := free8 hbx4
 have Hbx := Lib.hid hbx4
 have Hbw := Lib.hid (Hb3.out.trans (hb4.mono Hb3.out.size))
 clear hb4 hbx4
 have Hout : Hid ((s0.bytes l).out = hashOf l) := Lib.hid (by rw [← Hs0.out]; rfl)
 generalize (s0.bytes l).out = d at *
 go_wp2
 clear zf r0 r1 r2 r3 r4 r5 r6 r7
 have h8 := set8 Hbx.out (.int .u8 d.x0) (.int .u8 d.x1) (.int .u8 d.x2) (.int .u8 d.x3) (.int .u8 d.x4) (.int .u8 d.x5) (.int .u8 d.x6) (.int .u8 d.x7)
 have hg8 := grown_set8 w4 (w.heap.size) (.int .u8 d.x0) (.int .u8 d.x1) (.int .u8 d.x2) (.int .u8 d.x3) (.int .u8 d.x4) (.int .u8 d.x5) (.int .u8 d.x6) (.int .u8 d.x7)
 generalize ((((((((w4.setCell ⟨w.heap.size, 0, none⟩ (.int .u8 d.x0)).setCell ⟨w.heap.size, 1, none⟩ (.int .u8 d.x1)).setCell ⟨w.heap.size, 2, none⟩ (.int .u8 d.x2)).setCell ⟨w.heap.size, 3, none⟩ (.int .u8 d.x3)).setCell ⟨w.heap.size, 4, none⟩ (.int .u8 d.x4)).setCell ⟨w.heap.size, 5, none⟩ (.int .u8 d.x5)).setCell ⟨w.heap.size, 6, none⟩ (.int .u8 d.x6)).setCell ⟨w.heap.size, 7, none⟩ (.int .u8 d.x7)) = w5 at *
 obtain ⟨zf, r0, r1, r2, r3, r4, r5, r6, r7⟩ := free8 h8
 have Hb2 := Lib.hid (Hbw.out.grown hg8 Hbw.out.size (fun k hk => by injection hk with hk; omega))
 clear h8 hg8
 refine bodyPost_ret (v := .agg #[.int .u8 d.x0, .int .u8 d.x1, .int .u8 d.x2, .int .u8 d.x3, .int .u8 d.x4, .int .u8 d.x5, .int .u8 d.x6, .int .u8 d.x7]) (by simp [results, Tryz.results92, go_sem, r0, r1, r2, r3, r4, r5, r6, r7]) rfl ⟨by rw [Hout.out], Hb2.out⟩
end Go.Proofs.YthhiookcknnmdaaGreat
