/- The hash of bytes: the walks of gives, whole, end, bytes. Conditions: bounds on how many bytes. The hash of bytes: the walks of end, bytes, Of. Conditions: bounds on how many bytes. The hash of bytes: the walk of Of. Conditions: bounds on how many bytes. -/
import Derived.Test.YthhiookcknnmdaaGreatJoinB
import Derived.Test.YthhiookcknnmdaaGreatSlice
import Derived.Test.YthhiookcknnmdaaGreatJoinA
import Derived.Laws.CopyOwn
import Derived.Deep.RegionLaw
import Derived.Test.YthhiookcknnmdaaGreatTail
import Derived.Deep.DeepCutAuto
namespace Go.Proofs.YthhiookcknnmdaaGreat
open Go.RowKit Go.Lib

theorem hfrom_mix (s : Hs) (w : World) :
  Calls Tryz.prog 161 #[.int .u64 (bits .xor .u64 s.a s.c)] w fun e w' => e = .returned (.agg #[.int .u8 s.out.x0, .int .u8 s.out.x1, .int .u8 s.out.x2, .int .u8 s.out.x3, .int .u8 s.out.x4, .int .u8 s.out.x5, .int .u8 s.out.x6, .int .u8 s.out.x7]) ∧ Below w.heap.size w w' := by
 rw [mix_int]; exact hfrom_any s.mix w (mix_lt s)
set_option maxRecDepth 100000 in
set_option maxHeartbeats 1000000 in
theorem gives_any (g : Nat) (s : Hs) (w : World) (h : StAt w g s) :
  Calls Tryz.prog 127 #[.pointer (some ⟨g, 0, none⟩)] w fun e w' => e = .returned (.agg #[.int .u8 s.out.x0, .int .u8 s.out.x1, .int .u8 s.out.x2, .int .u8 s.out.x3, .int .u8 s.out.x4, .int .u8 s.out.x5, .int .u8 s.out.x6, .int .u8 s.out.x7]) ∧ Below w.heap.size w w' := by
 have z0 := block_cell h 0; have z2 := block_cell h 2
 have hg := block_lt h
 simp at z0 z2
 clear h
 go_enter Tryz.func127, Tryz.ntmps127
 go_wp2
 refine wp_region_tail 9 (by kernel_rfl) (by kernel_rfl) ?_
 simp only [List.take_succ_cons, List.take_zero, List.drop_succ_cons, List.drop_zero]
 repeat still_step
 refine wpStill_nil ?_
 go_wp2_with (go_at_call 161; refine (hfrom_mix s _).mono ?_; rintro e w1 ⟨rfl, hb1⟩; have hbw := (((Below.refl _ _).alloc (Nat.le_refl _) _).drew).trans (hb1.mono (by simp)); have hsz := hb1.size; simp at hsz; have Hbw := Lib.hid hbw; have hbx := block_below (w := ((w.alloc (.cells #[.int .u8 0, .int .u8 0, .int .u8 0, .int .u8 0, .int .u8 0, .int .u8 0, .int .u8 0, .int .u8 0] 27))).drew) (heap_alloc_new w _) hb1 (by simp); obtain ⟨zf, r0, r1, r2, r3, r4, r5, r6, r7⟩ := free8 hbx; have Hbx := Lib.hid hbx; clear hb1 hbw hbx)
 clear zf r0 r1 r2 r3 r4 r5 r6 r7
 have h8 := set8 Hbx.out (.int .u8 s.out.x0) (.int .u8 s.out.x1) (.int .u8 s.out.x2) (.int .u8 s.out.x3) (.int .u8 s.out.x4) (.int .u8 s.out.x5) (.int .u8 s.out.x6) (.int .u8 s.out.x7)
 have hg8 := grown_set8 w1 (w.heap.size) (.int .u8 s.out.x0) (.int .u8 s.out.x1) (.int .u8 s.out.x2) (.int .u8 s.out.x3) (.int .u8 s.out.x4) (.int .u8 s.out.x5) (.int .u8 s.out.x6) (.int .u8 s.out.x7)
 generalize ((((((((w1.setCell ⟨w.heap.size, 0, none⟩ (.int .u8 s.out.x0)).setCell ⟨w.heap.size, 1, none⟩ (.int .u8 s.out.x1)).setCell ⟨w.heap.size, 2, none⟩ (.int .u8 s.out.x2)).setCell ⟨w.heap.size, 3, none⟩ (.int .u8 s.out.x3)).setCell ⟨w.heap.size, 4, none⟩ (.int .u8 s.out.x4)).setCell ⟨w.heap.size, 5, none⟩ (.int .u8 s.out.x5)).setCell ⟨w.heap.size, 6, none⟩ (.int .u8 s.out.x6)).setCell ⟨w.heap.size, 7, none⟩ (.int .u8 s.out.x7)) = w2 at *
 obtain ⟨zf, r0, r1, r2, r3, r4, r5, r6, r7⟩ := free8 h8
 have Hb2 := Lib.hid (Hbw.out.grown hg8 Hbw.out.size (fun k hk => by injection hk with hk; omega))
 clear h8 hg8
 refine bodyPost_ret (v := .agg #[.int .u8 s.out.x0, .int .u8 s.out.x1, .int .u8 s.out.x2, .int .u8 s.out.x3, .int .u8 s.out.x4, .int .u8 s.out.x5, .int .u8 s.out.x6, .int .u8 s.out.x7]) (by simp [results, Tryz.results127, go_sem, r0, r1, r2, r3, r4, r5, r6, r7]) rfl ⟨rfl, Hb2.out⟩
theorem Rd.grownNe {w w' : World} {B sz n g : Nat} {A : Option Addr} {xs : List Value} (h : Rd w B sz A n xs) (hg : w.grownBy w' (some g)) (hB : B ≤ w.heap.size) (hne : 0 < n → ∀ b o, A = some ⟨b, o, none⟩ → b ≠ g) : Rd w' B sz A n xs :=
 ⟨h.1, fun hn => by
  obtain ⟨b, o, e, hb, hc⟩ := h.2 hn
  exact ⟨b, o, e, hb, fun j u hu => (World.cell?_of_block (a := ⟨b, o + j, none⟩) (hg.block b (by omega) (fun e' => hne hn b o e (by injection e')))).trans (hc j u hu)⟩⟩
theorem run_arr (A : Option Addr) (c : Nat) (w' : World) : (Instr.arrayAt 27 (.slice A 8 c)).run Tryz.prog w' = .ok (.pointer A) w' := by
 simp [Instr.arrayAt, run_underlying Tryz.underlying27]
theorem bv_getD {l : List Nat} {j : Nat} (h : j < l.length) : (bv l)[j]? = some (.int .u8 ((l.getD j 0 : Nat) : Int)) := by
 simp [bv, List.getD_eq_getElem?_getD, List.getElem?_eq_getElem h]
theorem slice8 {w : World} {B n c k : Nat} {A : Option Addr} {l : List Nat} (hr : Rd w B 1 A n (bv l)) (hc : n ≤ c) (hk : k * 8 + 8 ≤ n) :
  ∃ b o, (∀ w', (Instr.sliceAt 46 (.slice A n c) (some (.int .i64 ((k : Int) * 8))) (some (.int .i64 ((k : Int) * 8 + 8))) none).run Tryz.prog w' = .ok (.slice (some ⟨b, o, none⟩) 8 (c - k * 8)) w') ∧
   w.cell? ⟨b, o, none⟩ = some (.int .u8 (chunk l k).x0) ∧ w.cell? ⟨b, o + 1, none⟩ = some (.int .u8 (chunk l k).x1) ∧ w.cell? ⟨b, o + 2, none⟩ = some (.int .u8 (chunk l k).x2) ∧ w.cell? ⟨b, o + 3, none⟩ = some (.int .u8 (chunk l k).x3) ∧
   w.cell? ⟨b, o + 4, none⟩ = some (.int .u8 (chunk l k).x4) ∧ w.cell? ⟨b, o + 5, none⟩ = some (.int .u8 (chunk l k).x5) ∧ w.cell? ⟨b, o + 6, none⟩ = some (.int .u8 (chunk l k).x6) ∧ w.cell? ⟨b, o + 7, none⟩ = some (.int .u8 (chunk l k).x7) := by
 have hl : l.length = n := by have := hr.1; rw [bv_len] at this; omega
 obtain ⟨A2, hs, hr2⟩ := slice_range elem_u8 sizeOf_u8 hr hc (k := k * 8) (m := k * 8 + 8) (by omega) (by omega)
 rw [show k * 8 + 8 - k * 8 = 8 by omega] at hr2 hs
 obtain ⟨b, o, rfl, _, hcell⟩ := hr2.2 (by omega)
 have e : ∀ j, j < 8 → (((bv l).drop (k * 8 * 1)).take (8 * 1))[j]? = some (.int .u8 ((l.getD (8 * k + j) 0 : Nat) : Int)) := fun j hj => by
  rw [List.getElem?_take_of_lt (by omega), List.getElem?_drop, show k * 8 * 1 + j = 8 * k + j by omega, bv_getD (by omega)]
 refine ⟨b, o, fun w' => ?_, ?_, ?_, ?_, ?_, ?_, ?_, ?_, ?_⟩
 ·have := hs w'
  push_cast at this
  exact this
 ·exact hcell 0 _ (e 0 (by omega))
 ·exact hcell 1 _ (e 1 (by omega))
 ·exact hcell 2 _ (e 2 (by omega))
 ·exact hcell 3 _ (e 3 (by omega))
 ·exact hcell 4 _ (e 4 (by omega))
 ·exact hcell 5 _ (e 5 (by omega))
 ·exact hcell 6 _ (e 6 (by omega))
 ·exact hcell 7 _ (e 7 (by omega))
theorem take_at (g : Nat) (s : Hs) (n : Int) (w w0 : World) (h : Hid (StAt w g s)) (hw : Hid (w0.grownBy w (some g))) :
  Calls Tryz.prog 171 #[.pointer (some ⟨g, 0, none⟩), .int .u64 n] w fun e w' => e = .returned (.tuple #[]) ∧ Hid (StAt w' g (s.take n)) ∧ Hid (w0.grownBy w' (some g)) :=
 (take_any g s n w h.out).mono fun _ _ ⟨e, a, b⟩ => ⟨e, a, hw.out.trans b⟩
set_option maxRecDepth 100000 in
set_option maxHeartbeats 1000000 in
theorem whole_any (g : Nat) (s : Hs) (A : Option Addr) (n c : Nat) (l : List Nat) (w : World) (h : StAt w g s) (hr : Rd w w.heap.size 1 A n (bv l)) (hne : 0 < n → ∀ b o, A = some ⟨b, o, none⟩ → b ≠ g) (hn : n ≤ 1000000000) (hc : n ≤ c) (hb : ∀ x ∈ l, x < 256) :
  Calls Tryz.prog 159 #[.pointer (some ⟨g, 0, none⟩), .slice A n c] w fun e w' => e = .returned (.tuple #[]) ∧ StAt w' g (s.eat l (n / 8)) ∧ w.grownBy w' (some g) := by
 have H := Lib.hid h; have Hr := Lib.hid hr; have Hne := Lib.hid hne; have Hb := Lib.hid hb
 have Hlt := Lib.hid (block_lt h)
 clear h hr hne hb
 have hni : (n : Int) ≤ 1000000000 := by omega
 have hra := run_arr
 go_enter Tryz.func159, Tryz.ntmps159
 go_wp2
 go_loopw [8] (fun i wr => ∃ k : Nat, k ≤ n / 8 ∧ i = .int .i64 k ∧ Hid (StAt wr g (s.eat l k)) ∧ Hid (w.grownBy wr (some g))) (fun i _ => n / 8 - (intOf i).toNat)
 case atStart => exact ⟨0, by omega, rfl, H, Lib.hid (World.grownBy.refl _ _)⟩
 case round =>
  obtain ⟨k, hk, rfl, Hs, Hg⟩ := hrel
  by_cases hlt : k < n / 8
  ·have hd : decide ((k : Int) < (n : Int) / 8) = true := decide_eq_true (by omega)
   have hk8 : (k : Int) * 8 + 8 ≤ (n : Int) := by omega
   obtain ⟨b, o, hs, c0, c1, c2, c3, c4, c5, c6, c7⟩ := slice8 (k := k) (Hr.out.grownNe Hg.out (Nat.le_refl _) Hne.out) hc (by omega)
   have Hok := Lib.hid (chunk_ok Hb.out k)
   have Hchunk : Hid (s.eat l (k + 1) = (s.eat l k).take ((chunk l k).num : Int)) := Lib.hid rfl
   generalize chunk l k = d at *
   go_wp2_with fail
   refine (hnum_any d _ Hok.out).mono ?_
   rintro e w1 ⟨rfl, hb1⟩
   have Hs1 : Hid (StAt w1 g (s.eat l k)) := Lib.hid (block_below Hs.out hb1 (block_lt Hs.out))
   have Hg1 := Lib.hid (Hg.out.trans ⟨hb1.os, hb1.tape, hb1.output, hb1.size, fun j hj _ => hb1.block j hj⟩)
   clear hb1 c0 c1 c2 c3 c4 c5 c6 c7 hs
   go_wp2_with fail
   refine (take_at g _ _ _ w Hs1 Hg1).mono ?_
   rintro e w2 ⟨rfl, Hs2, Hg2⟩
   go_wp2
   go_roundw
   case rel => exact ⟨k + 1, by omega, by go_num, by rw [Hchunk.out]; exact Hs2, Hg2⟩
   case measure => simp [intOf]; omega
  ·obtain rfl : k = n / 8 := by omega
   have hd : decide (((n / 8 : Nat) : Int) < (n : Int) / 8) = false := decide_eq_false (by omega)
   clear hlt hk
   go_wp2
   go_end0
   exact ⟨rfl, Hs.out, Hg.out⟩
end Go.Proofs.YthhiookcknnmdaaGreat
namespace Go.Proofs.YthhiookcknnmdaaGreat
open Go.RowKit Go.Lib
def zeros8 : List Value := [.int .u8 0, .int .u8 0, .int .u8 0, .int .u8 0, .int .u8 0, .int .u8 0, .int .u8 0, .int .u8 0]
theorem tail_block {w : World} {g : Nat} {cs : List Value} (h : w.heap[g]? = some (.cells (splice zeros8 0 cs).toArray 27 (0, 0))) (l : List Nat) (hcs : cs = bv (l.drop (8 * (l.length / 8)))) :
  (w.setCell ⟨g, cs.length, none⟩ (.int .u8 1)).heap[g]? = some (.cells #[.int .u8 ((chunk (l ++ [1]) (l.length / 8)).x0 : Int), .int .u8 ((chunk (l ++ [1]) (l.length / 8)).x1 : Int), .int .u8 ((chunk (l ++ [1]) (l.length / 8)).x2 : Int), .int .u8 ((chunk (l ++ [1]) (l.length / 8)).x3 : Int), .int .u8 ((chunk (l ++ [1]) (l.length / 8)).x4 : Int), .int .u8 ((chunk (l ++ [1]) (l.length / 8)).x5 : Int), .int .u8 ((chunk (l ++ [1]) (l.length / 8)).x6 : Int), .int .u8 ((chunk (l ++ [1]) (l.length / 8)).x7 : Int)] 27 (0, 0)) := by
 rw [Joins.block_setCell (i := cs.length) h (.int .u8 1)]
 have e := tail_cells l
 have e2 : (splice zeros8 0 cs).set cs.length (.int .u8 1) = (chunk (l ++ [1]) (l.length / 8)).cs := by
  rw [← e, hcs]
  simp only [splice, List.take_zero, List.nil_append, Nat.zero_add, bv_len]
  rfl
 simp only [List.setIfInBounds_toArray, e2]
 rfl
theorem heap_alloc_new' {w : World} {x : Obj} {k : Nat} (hk : k = w.heap.size) : (w.alloc x).drew.heap[k]? = some x := by subst hk; exact heap_alloc_new w x
theorem add_at (b o j : Nat) : (⟨b, o, none⟩ : Addr).add j = ⟨b, o + j, none⟩ := by
 unfold Addr.add
 split
 ·simp_all
 ·rfl
theorem block_of_alloc {w : World} {x y : Obj} {g : Nat} (h : (w.alloc x).drew.heap[g]? = some y) (hg : g < w.heap.size) : w.heap[g]? = some y := (Below.heap_alloc w x g hg).symm.trans h
set_option maxRecDepth 100000 in
set_option maxHeartbeats 1000000 in
theorem hend_any (g : Nat) (s : Hs) (A : Option Addr) (n c : Nat) (l : List Nat) (w : World) (h : StAt w g s) (hr : Rd w w.heap.size 1 A n (bv l)) (hn : n ≤ 1000000000) (hc : n ≤ c) (hb : ∀ x ∈ l, x < 256) :
  Calls Tryz.prog 160 #[.pointer (some ⟨g, 0, none⟩), .slice A n c] w fun e w' => e = .returned (.tuple #[]) ∧ StAt w' g ((s.take ((chunk (l ++ [1]) (n / 8)).num : Int)).take (n : Int)) ∧ w.grownBy w' (some g) := by
 have hl : l.length = n := by have := hr.1; rw [bv_len] at this; omega
 have Hok := Lib.hid (chunk_ok (snoc_ok hb) (n / 8))
 have hlt := block_lt h
 have Hs0 : Hid (StAt (w.alloc (.cells zeros8.toArray 27)).drew g s) := Lib.hid (block_alloc h _)
 obtain ⟨A2, hs, hr2⟩ := slice_from (t := 46) elem_u8 sizeOf_u8 hr hc (k := 8 * (n / 8)) (by omega)
 have e8 : ((8 * (n / 8) : Nat) : Int) = (n : Int) / 8 * 8 := by omega
 rw [e8] at hs
 obtain ⟨cs, hcs⟩ : ∃ cs, cs = bv (l.drop (8 * (n / 8))) := ⟨_, rfl⟩
 have hlen : cs.length = n - 8 * (n / 8) := by rw [hcs, bv_len, List.length_drop, hl]
 have hr3 : Rd w w.heap.size 1 A2 (n - 8 * (n / 8)) cs := by rw [hcs]; have := hr2; unfold bv at this ⊢; rw [List.map_drop]; simpa using this
 have h1 : ∀ v ∈ cs, v.oneCell' = true := by rw [hcs]; exact bv_one _
 have Htb : Hid (∀ w' : World, w'.heap[w.heap.size]? = some (.cells (splice zeros8 0 cs).toArray 27 (0, 0)) → (w'.setCell ⟨w.heap.size, cs.length, none⟩ (.int .u8 1)).heap[w.heap.size]? = some (.cells #[.int .u8 ((chunk (l ++ [1]) (n / 8)).x0 : Int), .int .u8 ((chunk (l ++ [1]) (n / 8)).x1 : Int), .int .u8 ((chunk (l ++ [1]) (n / 8)).x2 : Int), .int .u8 ((chunk (l ++ [1]) (n / 8)).x3 : Int), .int .u8 ((chunk (l ++ [1]) (n / 8)).x4 : Int), .int .u8 ((chunk (l ++ [1]) (n / 8)).x5 : Int), .int .u8 ((chunk (l ++ [1]) (n / 8)).x6 : Int), .int .u8 ((chunk (l ++ [1]) (n / 8)).x7 : Int)] 27 (0, 0))) :=
  Lib.hid (fun w' hw' => by have := tail_block hw' l (by rw [hcs, hl]); rwa [hl] at this)
 have Hr3 := Lib.hid hr3; have Hlen := Lib.hid hlen
 have hcl : cs.length < 8 := by omega
 have Hz : Hid (zeros8.toArray = #[.int .u8 0, .int .u8 0, .int .u8 0, .int .u8 0, .int .u8 0, .int .u8 0, .int .u8 0, .int .u8 0]) := Lib.hid rfl
 have hni : (n : Int) ≤ 1000000000 := by omega
 have hw8 : IntKind.i64.wrap ((n : Int) / 8) = (n : Int) / 8 := IntWalk.i64_in _ (by omega)
 have hwr : IntKind.i64.wrap ((n : Int) / 8 * 8) = (n : Int) / 8 * 8 := IntWalk.i64_in _ (by omega)
 clear hr hr2 hr3 hcs hlen e8 h hb hl
 generalize chunk (l ++ [1]) (n / 8) = d at *
 go_enter Tryz.func160, Tryz.ntmps160
 go_wp2
 refine wp_region_tail 7 (by kernel_rfl) (by kernel_rfl) ?_
 simp only [List.take_succ_cons, List.take_zero, List.drop_succ_cons, List.drop_zero]
 repeat still_step
 refine wpStill_nil ?_
 refine wpList_copy_splice (by rfl) (.tmp 6) (.tmp 12) 46 46 (by rfl) 5 Tryz.underlying46 (by kernel_rfl) (some ⟨w.heap.size, 0, none⟩) A2 8 8 (n - 8 * (n / 8)) (c - 8 * (n / 8)) (by rfl) (by rfl) w.heap.size 0 zeros8 27 ?_ cs ?_ ?_ ?_ h1 w.heap.size w ?_ (Nat.le_refl _) ?_
 ·exact heap_alloc_new' (x := .cells zeros8.toArray 27 (0, 0)) rfl
 ·rw [Hlen.out]; exact (Nat.min_eq_left (by omega)).symm
 ·intro h0
  obtain ⟨b, o, rfl, hb, hcell⟩ := Hr3.out.2 (by rw [← Hlen.out]; exact h0)
  refine ⟨rfl, ⟨b, o, none⟩, rfl, fun j v hv => ?_⟩
  rw [add_at]
  exact (World.cell?_alloc_lt w _ ⟨b, o + j, none⟩ (by show b < _; exact hb)).trans (hcell j v hv)
 ·show 0 + cs.length ≤ 8; omega
 ·exact ((Below.refl _ _).alloc (Nat.le_refl _) _).drew
 intro w2 Hg2 hb2
 have Hs2 : Hid (StAt w2 g s) := Lib.hid (block_below (block_of_alloc Hs0.out hlt) hb2 hlt)
 have hsz2 := block_lt Hg2.out
 have zf := block_free Hg2.out
 obtain ⟨v0, hv0⟩ : ∃ v0, w2.cell? ⟨w.heap.size, cs.length, none⟩ = some v0 := by
  rw [block_cell Hg2.out]
  refine ⟨_, Array.getElem?_eq_getElem (by simp only [List.size_toArray]; rw [length_splice _ _ _ (by show 0 + cs.length ≤ 8; omega)]; show cs.length < 8; exact hcl)⟩
 have Hb2 := Lib.hid hb2
 clear hb2
 go_upto_region 3 with fail
 have hB3 := Htb.out w2 Hg2.out
 have hs3 : StAt (w2.setCell ⟨w.heap.size, cs.length, none⟩ (.int .u8 1)) g s := (Below.heap_setCell _ _ _ _ (by show g ≠ w.heap.size; omega)).trans Hs2.out
 have hb3 : Below w.heap.size w (w2.setCell ⟨w.heap.size, cs.length, none⟩ (.int .u8 1)) := Hb2.out.setCell (Nat.le_refl _) _
 clear zf hv0
 generalize w2.setCell ⟨w.heap.size, cs.length, none⟩ (.int .u8 1) = w3 at *
 obtain ⟨zf, r0, r1, r2, r3, r4, r5, r6, r7⟩ := free8 hB3
 have Hs3 := Lib.hid hs3; have Hb3 := Lib.hid hb3
 clear hB3 hs3 hb3
 go_wp2_with fail
 refine (hnum_any d _ Hok.out).mono ?_
 rintro e w4 ⟨rfl, hb4⟩
 have Hs4 : Hid (StAt w4 g s) := Lib.hid (block_below Hs3.out hb4 (block_lt Hs3.out))
 have Hg4 : Hid (w.grownBy w4 (some g)) := Lib.hid (by
  have h9 : Below w.heap.size w w4 := Hb3.out.trans (hb4.mono Hb3.out.size)
  exact ⟨h9.os, h9.tape, h9.output, h9.size, fun j hj _ => h9.block j hj⟩)
 clear hb4 r0 r1 r2 r3 r4 r5 r6 r7 zf
 go_wp2_with fail
 refine (take_at g _ _ _ w Hs4 Hg4).mono ?_
 rintro e w5 ⟨rfl, Hs5, Hg5⟩
 go_wp2_with fail
 refine (take_at g _ _ _ w Hs5 Hg5).mono ?_
 rintro e w6 ⟨rfl, Hs6, Hg6⟩
 go_wp2
 go_end0
 exact ⟨rfl, Hs6.out, Hg6.out⟩
set_option maxRecDepth 100000 in
set_option maxHeartbeats 1000000 in
theorem hbytes_any (g : Nat) (s : Hs) (A : Option Addr) (n c : Nat) (l : List Nat) (w : World) (h : StAt w g s) (hr : Rd w w.heap.size 1 A n (bv l)) (hne : 0 < n → ∀ b o, A = some ⟨b, o, none⟩ → b ≠ g) (hn : n ≤ 1000000000) (hc : n ≤ c) (hb : ∀ x ∈ l, x < 256) :
  Calls Tryz.prog 126 #[.pointer (some ⟨g, 0, none⟩), .slice A n c] w fun e w' => e = .returned (.tuple #[]) ∧ Hid (StAt w' g (s.bytes l)) ∧ Hid (w.grownBy w' (some g)) := by
 have hl : l.length = n := by have := hr.1; rw [bv_len] at this; omega
 have H := Lib.hid h; have Hr := Lib.hid hr; have Hne := Lib.hid hne; have Hb := Lib.hid hb; have Hl := Lib.hid hl
 clear h hr hne hb hl
 go_enter Tryz.func126, Tryz.ntmps126
 go_wp2_with fail
 refine (whole_any g s A n c l w H.out Hr.out Hne.out hn hc Hb.out).mono ?_
 rintro e w1 ⟨rfl, h1, hg1⟩
 have H1 := Lib.hid h1; have Hg1 := Lib.hid hg1
 clear h1 hg1
 go_wp2_with fail
 refine (hend_any g (s.eat l (n / 8)) A n c l w1 H1.out ((Hr.out.grownNe Hg1.out (Nat.le_refl _) Hne.out).more Hg1.out.size) hn hc Hb.out).mono ?_
 rintro e w2 ⟨rfl, h2, hg2⟩
 have H2 : Hid (StAt w2 g (s.bytes l)) := Lib.hid (by
  unfold Hs.bytes
  rw [Hl.out]
  show StAt w2 g (((s.eat (l ++ [1]) (n / 8)).take _).take _)
  rw [eat_front s l [1] (n / 8) (by rw [Hl.out]; omega)]
  exact h2)
 have Hg2 := Lib.hid (Hg1.out.trans hg2)
 clear h2 hg2
 go_wp2
 go_end0
 exact ⟨rfl, H2, Hg2⟩
end Go.Proofs.YthhiookcknnmdaaGreat
namespace Go.Proofs.YthhiookcknnmdaaGreat
open Go.RowKit Go.Lib

set_option maxRecDepth 100000 in
set_option maxHeartbeats 1000000 in
theorem hof_any (A : Option Addr) (n c : Nat) (l : List Nat) (w : World) (hr : Rd w w.heap.size 1 A n (bv l)) (hn : n ≤ 1000000000) (hc : n ≤ c) (hb : ∀ x ∈ l, x < 256) :
  Calls Tryz.prog 56 #[.slice A n c] w fun e w' => e = .returned (.agg #[.int .u8 (hashOf l).x0, .int .u8 (hashOf l).x1, .int .u8 (hashOf l).x2, .int .u8 (hashOf l).x3, .int .u8 (hashOf l).x4, .int .u8 (hashOf l).x5, .int .u8 (hashOf l).x6, .int .u8 (hashOf l).x7]) ∧ Below w.heap.size w w' := by
 have Hr := Lib.hid hr; have Hb := Lib.hid hb
 clear hr hb
 have HX : Hid ((w.alloc (.cells #[.int .u8 0, .int .u8 0, .int .u8 0, .int .u8 0, .int .u8 0, .int .u8 0, .int .u8 0, .int .u8 0] 27)).heap[w.heap.size]? = some (.cells #[.int .u8 0, .int .u8 0, .int .u8 0, .int .u8 0, .int .u8 0, .int .u8 0, .int .u8 0, .int .u8 0] 27 (0, 0))) := heap_alloc_new w _
 go_enter Tryz.func56, Tryz.ntmps56
 go_wp2_with fail
 refine (begin_any 1 _).mono ?_
 rintro e w1 ⟨rfl, hb1⟩
 have Hbx1 := Lib.hid (block_below HX.out hb1 (by simp))
 have Hb1 := Lib.hid ((h_one w (.cells #[.int .u8 0, .int .u8 0, .int .u8 0, .int .u8 0, .int .u8 0, .int .u8 0, .int .u8 0, .int .u8 0] 27)).trans (hb1.mono (by simp)))
 have hsz1 := hb1.size
 simp at hsz1
 clear hb1
 go_upto_region 2 with fail
 generalize hs0 : Hs.begin 1 = s0 at *
 have h2 : StAt (w1.alloc (.cells #[.int .u64 s0.a, .int .u64 s0.b, .int .u64 s0.c, .int .u64 s0.d] 172)) w1.heap.size s0 := heap_alloc_new w1 _
 have hb2 : Below w.heap.size w (w1.alloc (.cells #[.int .u64 s0.a, .int .u64 s0.b, .int .u64 s0.c, .int .u64 s0.d] 172)) := Hb1.out.alloc (Hb1.out.size) _
 have hbx2 := block_alloc Hbx1.out (.cells #[.int .u64 s0.a, .int .u64 s0.b, .int .u64 s0.c, .int .u64 s0.d] 172)
 have hz2 : (w1.alloc (.cells #[.int .u64 s0.a, .int .u64 s0.b, .int .u64 s0.c, .int .u64 s0.d] 172)).heap.size = w1.heap.size + 1 := by simp
 generalize w1.alloc (.cells #[.int .u64 s0.a, .int .u64 s0.b, .int .u64 s0.c, .int .u64 s0.d] 172) = w2 at *
 have Hs0 := Lib.hid hs0; have H2 := Lib.hid h2; have Hb2 := Lib.hid hb2; have Hbx2 := Lib.hid hbx2; have Hz2 := Lib.hid hz2
 have hlt2 : w1.heap.size < w2.heap.size := by omega
 generalize w1.heap.size = g at *
 clear hs0 h2 hb2 hbx2 hz2 Hbx1 Hb1
 go_wp2_with fail
 refine (hbytes_any g s0 A n c l w2 H2.out ((Hr.out.below Hb2.out (Nat.le_refl _)).more Hb2.out.size) (fun h0 b o e => ?_) hn hc Hb.out).mono ?_
 ·obtain ⟨b', o', e', hlt, _⟩ := Hr.out.2 h0
  rw [e] at e'; injection e' with e'; injection e' with e1 e2; omega
 rintro e w3 ⟨rfl, H3, Hg3⟩
 have Hb3 := Lib.hid (Hb2.out.grown Hg3.out Hb2.out.size (fun k hk => by injection hk with hk; omega))
 have Hbx3 := Lib.hid (block_grown Hbx2.out Hg3.out (by intro e; injection e with e; omega))
 go_wp2_with fail
 refine (gives_any g _ _ H3.out).mono ?_
 rintro e w4 ⟨rfl, hb4⟩
 have hbx4 := block_below Hbx3.out hb4 (block_lt Hbx3.out)
 obtain ⟨zf, r0, r1, r2, r3, r4, r5, r6, r7⟩ := free8 hbx4
 have Hbx := Lib.hid hbx4
 have Hbw := Lib.hid (Hb3.out.trans (hb4.mono Hb3.out.size))
 clear hb4 hbx4
 have Hout : Hid ((s0.bytes l).out = hashOf l) := Lib.hid (by rw [← Hs0.out]; rfl)
 generalize (s0.bytes l).out = d at *
 go_wp2
 clear zf r0 r1 r2 r3 r4 r5 r6 r7
 have h8 := set8 Hbx.out (.int .u8 d.x0) (.int .u8 d.x1) (.int .u8 d.x2) (.int .u8 d.x3) (.int .u8 d.x4) (.int .u8 d.x5) (.int .u8 d.x6) (.int .u8 d.x7)
 have hg8 := grown_set8 w4 (w.heap.size) (.int .u8 d.x0) (.int .u8 d.x1) (.int .u8 d.x2) (.int .u8 d.x3) (.int .u8 d.x4) (.int .u8 d.x5) (.int .u8 d.x6) (.int .u8 d.x7)
 generalize ((((((((w4.setCell ⟨w.heap.size, 0, none⟩ (.int .u8 d.x0)).setCell ⟨w.heap.size, 1, none⟩ (.int .u8 d.x1)).setCell ⟨w.heap.size, 2, none⟩ (.int .u8 d.x2)).setCell ⟨w.heap.size, 3, none⟩ (.int .u8 d.x3)).setCell ⟨w.heap.size, 4, none⟩ (.int .u8 d.x4)).setCell ⟨w.heap.size, 5, none⟩ (.int .u8 d.x5)).setCell ⟨w.heap.size, 6, none⟩ (.int .u8 d.x6)).setCell ⟨w.heap.size, 7, none⟩ (.int .u8 d.x7)) = w5 at *
 obtain ⟨zf, r0, r1, r2, r3, r4, r5, r6, r7⟩ := free8 h8
 have Hb2 := Lib.hid (Hbw.out.grown hg8 Hbw.out.size (fun k hk => by injection hk with hk; omega))
 clear h8 hg8
 refine bodyPost_ret (v := .agg #[.int .u8 d.x0, .int .u8 d.x1, .int .u8 d.x2, .int .u8 d.x3, .int .u8 d.x4, .int .u8 d.x5, .int .u8 d.x6, .int .u8 d.x7]) (by simp [results, Tryz.results56, go_sem, r0, r1, r2, r3, r4, r5, r6, r7]) rfl ⟨by rw [Hout.out], Hb2.out⟩
end Go.Proofs.YthhiookcknnmdaaGreat
