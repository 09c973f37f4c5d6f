/- The hash of bytes: the walks of end, bytes, Of. Conditions: bounds on how many bytes. -/
import Derived.Test.YtmpklplojfjfbaaHsE
import Derived.Deep.DeepCutAuto
namespace Go.Proofs.Ytmpklplojfjfbaa
open Go.RowKit Go.Lib
def zeros8 : List Value := [.int .u8 0, .int .u8 0, .int .u8 0, .int .u8 0, .int .u8 0, .int .u8 0, .int .u8 0, .int .u8 0]
theorem tail_block {w : World} {g : Nat} {cs : List Value} (h : w.heap[g]? = some (.cells (splice zeros8 0 cs).toArray 29 (0, 0))) (l : List Nat) (hcs : cs = bv (l.drop (8 * (l.length / 8)))) :
    (w.setCell ⟨g, cs.length, none⟩ (.int .u8 1)).heap[g]? = some (.cells #[.int .u8 ((chunk (l ++ [1]) (l.length / 8)).x0 : Int), .int .u8 ((chunk (l ++ [1]) (l.length / 8)).x1 : Int), .int .u8 ((chunk (l ++ [1]) (l.length / 8)).x2 : Int), .int .u8 ((chunk (l ++ [1]) (l.length / 8)).x3 : Int), .int .u8 ((chunk (l ++ [1]) (l.length / 8)).x4 : Int), .int .u8 ((chunk (l ++ [1]) (l.length / 8)).x5 : Int), .int .u8 ((chunk (l ++ [1]) (l.length / 8)).x6 : Int), .int .u8 ((chunk (l ++ [1]) (l.length / 8)).x7 : Int)] 29 (0, 0)) := by
  rw [Joins.block_setCell (i := cs.length) h (.int .u8 1)]
  have e := tail_cells l
  have e2 : (splice zeros8 0 cs).set cs.length (.int .u8 1) = (chunk (l ++ [1]) (l.length / 8)).cs := by
    rw [← e, hcs]
    simp only [splice, List.take_zero, List.nil_append, Nat.zero_add, bv_len]
    rfl
  simp only [List.setIfInBounds_toArray, e2]
  rfl
theorem heap_alloc_new' {w : World} {x : Obj} {k : Nat} (hk : k = w.heap.size) : (w.alloc x).drew.heap[k]? = some x := by subst hk; exact heap_alloc_new w x
theorem add_at (b o j : Nat) : (⟨b, o, none⟩ : Addr).add j = ⟨b, o + j, none⟩ := by
  unfold Addr.add
  split
  · simp_all
  · rfl
theorem block_of_alloc {w : World} {x y : Obj} {g : Nat} (h : (w.alloc x).drew.heap[g]? = some y) (hg : g < w.heap.size) : w.heap[g]? = some y := (Below.heap_alloc w x g hg).symm.trans h
set_option maxRecDepth 100000 in
set_option maxHeartbeats 1000000 in
theorem hend_any (g : Nat) (s : Hs) (A : Option Addr) (n c : Nat) (l : List Nat) (w : World) (h : StAt w g s) (hr : Rd w w.heap.size 1 A n (bv l)) (hn : n ≤ 1000000000) (hc : n ≤ c) (hb : ∀ x ∈ l, x < 256) :
    Calls Try.prog 89 #[.pointer (some ⟨g, 0, none⟩), .slice A n c] w fun e w' => e = .returned (.tuple #[]) ∧ StAt w' g ((s.take ((chunk (l ++ [1]) (n / 8)).num : Int)).take (n : Int)) ∧ w.grownBy w' (some g) := by
  have hl : l.length = n := by have := hr.1; rw [bv_len] at this; omega
  have Hok := Lib.hid (chunk_ok (snoc_ok hb) (n / 8))
  have hlt := block_lt h
  have Hs0 : Hid (StAt (w.alloc (.cells zeros8.toArray 29)).drew g s) := Lib.hid (block_alloc h _)
  obtain ⟨A2, hs, hr2⟩ := slice_from (t := 32) elem_u8 sizeOf_u8 hr hc (k := 8 * (n / 8)) (by omega)
  have e8 : ((8 * (n / 8) : Nat) : Int) = (n : Int) / 8 * 8 := by omega
  rw [e8] at hs
  obtain ⟨cs, hcs⟩ : ∃ cs, cs = bv (l.drop (8 * (n / 8))) := ⟨_, rfl⟩
  have hlen : cs.length = n - 8 * (n / 8) := by rw [hcs, bv_len, List.length_drop, hl]
  have hr3 : Rd w w.heap.size 1 A2 (n - 8 * (n / 8)) cs := by rw [hcs]; have := hr2; unfold bv at this ⊢; rw [List.map_drop]; simpa using this
  have h1 : ∀ v ∈ cs, v.oneCell' = true := by rw [hcs]; exact bv_one _
  have Htb : Hid (∀ w' : World, w'.heap[w.heap.size]? = some (.cells (splice zeros8 0 cs).toArray 29 (0, 0)) → (w'.setCell ⟨w.heap.size, cs.length, none⟩ (.int .u8 1)).heap[w.heap.size]? = some (.cells #[.int .u8 ((chunk (l ++ [1]) (n / 8)).x0 : Int), .int .u8 ((chunk (l ++ [1]) (n / 8)).x1 : Int), .int .u8 ((chunk (l ++ [1]) (n / 8)).x2 : Int), .int .u8 ((chunk (l ++ [1]) (n / 8)).x3 : Int), .int .u8 ((chunk (l ++ [1]) (n / 8)).x4 : Int), .int .u8 ((chunk (l ++ [1]) (n / 8)).x5 : Int), .int .u8 ((chunk (l ++ [1]) (n / 8)).x6 : Int), .int .u8 ((chunk (l ++ [1]) (n / 8)).x7 : Int)] 29 (0, 0))) :=
    Lib.hid (fun w' hw' => by have := tail_block hw' l (by rw [hcs, hl]); rwa [hl] at this)
  have Hr3 := Lib.hid hr3; have Hlen := Lib.hid hlen
  have hcl : cs.length < 8 := by omega
  have Hz : Hid (zeros8.toArray = #[.int .u8 0, .int .u8 0, .int .u8 0, .int .u8 0, .int .u8 0, .int .u8 0, .int .u8 0, .int .u8 0]) := Lib.hid rfl
  have hni : (n : Int) ≤ 1000000000 := by omega
  have hw8 : IntKind.i64.wrap ((n : Int) / 8) = (n : Int) / 8 := IntWalk.i64_in _ (by omega)
  have hwr : IntKind.i64.wrap ((n : Int) / 8 * 8) = (n : Int) / 8 * 8 := IntWalk.i64_in _ (by omega)
  clear hr hr2 hr3 hcs hlen e8 h hb hl
  generalize chunk (l ++ [1]) (n / 8) = d at *
  go_enter Try.func89, Try.ntmps89
  go_wp2
  refine wp_region_tail 7 (by kernel_rfl) (by kernel_rfl) ?_
  simp only [List.take_succ_cons, List.take_zero, List.drop_succ_cons, List.drop_zero]
  repeat still_step
  refine wpStill_nil ?_
  refine wpList_copy_splice (by rfl) (.tmp 6) (.tmp 12) 32 32 (by rfl) 5 Try.underlying32 (by kernel_rfl) (some ⟨w.heap.size, 0, none⟩) A2 8 8 (n - 8 * (n / 8)) (c - 8 * (n / 8)) (by rfl) (by rfl) w.heap.size 0 zeros8 29 ?_ cs ?_ ?_ ?_ h1 w.heap.size w ?_ (Nat.le_refl _) ?_
  · exact heap_alloc_new' (x := .cells zeros8.toArray 29 (0, 0)) rfl
  · rw [Hlen.out]; exact (Nat.min_eq_left (by omega)).symm
  · intro h0
    obtain ⟨b, o, rfl, hb, hcell⟩ := Hr3.out.2 (by rw [← Hlen.out]; exact h0)
    refine ⟨rfl, ⟨b, o, none⟩, rfl, fun j v hv => ?_⟩
    rw [add_at]
    exact (World.cell?_alloc_lt w _ ⟨b, o + j, none⟩ (by show b < _; exact hb)).trans (hcell j v hv)
  · show 0 + cs.length ≤ 8; omega
  · exact ((Below.refl _ _).alloc (Nat.le_refl _) _).drew
  intro w2 Hg2 hb2
  have Hs2 : Hid (StAt w2 g s) := Lib.hid (block_below (block_of_alloc Hs0.out hlt) hb2 hlt)
  have hsz2 := block_lt Hg2.out
  have zf := block_free Hg2.out
  obtain ⟨v0, hv0⟩ : ∃ v0, w2.cell? ⟨w.heap.size, cs.length, none⟩ = some v0 := by
    rw [block_cell Hg2.out]
    refine ⟨_, Array.getElem?_eq_getElem (by simp only [List.size_toArray]; rw [length_splice _ _ _ (by show 0 + cs.length ≤ 8; omega)]; show cs.length < 8; exact hcl)⟩
  have Hb2 := Lib.hid hb2
  clear hb2
  go_upto_region 3 with fail
  have hB3 := Htb.out w2 Hg2.out
  have hs3 : StAt (w2.setCell ⟨w.heap.size, cs.length, none⟩ (.int .u8 1)) g s := (Below.heap_setCell _ _ _ _ (by show g ≠ w.heap.size; omega)).trans Hs2.out
  have hb3 : Below w.heap.size w (w2.setCell ⟨w.heap.size, cs.length, none⟩ (.int .u8 1)) := Hb2.out.setCell (Nat.le_refl _) _
  clear zf hv0
  generalize w2.setCell ⟨w.heap.size, cs.length, none⟩ (.int .u8 1) = w3 at *
  obtain ⟨zf, r0, r1, r2, r3, r4, r5, r6, r7⟩ := free8 hB3
  have Hs3 := Lib.hid hs3; have Hb3 := Lib.hid hb3
  clear hB3 hs3 hb3
  go_wp2_with fail
  refine (hnum_any d _ Hok.out).mono ?_
  rintro e w4 ⟨rfl, hb4⟩
  have Hs4 : Hid (StAt w4 g s) := Lib.hid (block_below Hs3.out hb4 (block_lt Hs3.out))
  have Hg4 : Hid (w.grownBy w4 (some g)) := Lib.hid (by
    have h9 : Below w.heap.size w w4 := Hb3.out.trans (hb4.mono Hb3.out.size)
    exact ⟨h9.os, h9.tape, h9.output, h9.size, fun j hj _ => h9.block j hj⟩)
  clear hb4 r0 r1 r2 r3 r4 r5 r6 r7 zf
  go_wp2_with fail
  refine (take_at g _ _ _ w Hs4 Hg4).mono ?_
  rintro e w5 ⟨rfl, Hs5, Hg5⟩
  go_wp2_with fail
  refine (take_at g _ _ _ w Hs5 Hg5).mono ?_
  rintro e w6 ⟨rfl, Hs6, Hg6⟩
  go_wp2
  go_end0
  exact ⟨rfl, Hs6.out, Hg6.out⟩
set_option maxRecDepth 100000 in
set_option maxHeartbeats 1000000 in
theorem hbytes_any (g : Nat) (s : Hs) (A : Option Addr) (n c : Nat) (l : List Nat) (w : World) (h : StAt w g s) (hr : Rd w w.heap.size 1 A n (bv l)) (hne : 0 < n → ∀ b o, A = some ⟨b, o, none⟩ → b ≠ g) (hn : n ≤ 1000000000) (hc : n ≤ c) (hb : ∀ x ∈ l, x < 256) :
    Calls Try.prog 84 #[.pointer (some ⟨g, 0, none⟩), .slice A n c] w fun e w' => e = .returned (.tuple #[]) ∧ Hid (StAt w' g (s.bytes l)) ∧ Hid (w.grownBy w' (some g)) := by
  have hl : l.length = n := by have := hr.1; rw [bv_len] at this; omega
  have H := Lib.hid h; have Hr := Lib.hid hr; have Hne := Lib.hid hne; have Hb := Lib.hid hb; have Hl := Lib.hid hl
  clear h hr hne hb hl
  go_enter Try.func84, Try.ntmps84
  go_wp2_with fail
  refine (whole_any g s A n c l w H.out Hr.out Hne.out hn hc Hb.out).mono ?_
  rintro e w1 ⟨rfl, h1, hg1⟩
  have H1 := Lib.hid h1; have Hg1 := Lib.hid hg1
  clear h1 hg1
  go_wp2_with fail
  refine (hend_any g (s.eat l (n / 8)) A n c l w1 H1.out ((Hr.out.grownNe Hg1.out (Nat.le_refl _) Hne.out).more Hg1.out.size) hn hc Hb.out).mono ?_
  rintro e w2 ⟨rfl, h2, hg2⟩
  have H2 : Hid (StAt w2 g (s.bytes l)) := Lib.hid (by
    unfold Hs.bytes
    rw [Hl.out]
    show StAt w2 g (((s.eat (l ++ [1]) (n / 8)).take _).take _)
    rw [eat_front s l [1] (n / 8) (by rw [Hl.out]; omega)]
    exact h2)
  have Hg2 := Lib.hid (Hg1.out.trans hg2)
  clear h2 hg2
  go_wp2
  go_end0
  exact ⟨rfl, H2, Hg2⟩
end Go.Proofs.Ytmpklplojfjfbaa
