/- The hash of bytes: the walks of gives, whole, end, bytes. Conditions: bounds on how many bytes. -/
import Derived.Test.YtmpklplojfjfbaaHsP
import Derived.Test.YtmpklplojfjfbaaSlice
import Derived.Test.YtmpklplojfjfbaaReader
import Derived.Laws.CopyOwn
import Derived.Deep.RegionLaw
import Derived.Test.YtmpklplojfjfbaaTail
namespace Go.Proofs.Ytmpklplojfjfbaa
open Go.RowKit Go.Lib

theorem hfrom_mix (s : Hs) (w : World) :
    Calls Try.prog 60 #[.int .u64 (bits .xor .u64 s.a s.c)] w fun e w' => e = .returned (.agg #[.int .u8 (s.out.x0 : Int), .int .u8 (s.out.x1 : Int), .int .u8 (s.out.x2 : Int), .int .u8 (s.out.x3 : Int), .int .u8 (s.out.x4 : Int), .int .u8 (s.out.x5 : Int), .int .u8 (s.out.x6 : Int), .int .u8 (s.out.x7 : Int)]) ∧ Below w.heap.size w w' := by
  rw [mix_int]; exact hfrom_any s.mix w (mix_lt s)
set_option maxRecDepth 100000 in
set_option maxHeartbeats 1000000 in
theorem gives_any (g : Nat) (s : Hs) (w : World) (h : StAt w g s) :
    Calls Try.prog 83 #[.pointer (some ⟨g, 0, none⟩)] w fun e w' => e = .returned (.agg #[.int .u8 (s.out.x0 : Int), .int .u8 (s.out.x1 : Int), .int .u8 (s.out.x2 : Int), .int .u8 (s.out.x3 : Int), .int .u8 (s.out.x4 : Int), .int .u8 (s.out.x5 : Int), .int .u8 (s.out.x6 : Int), .int .u8 (s.out.x7 : Int)]) ∧ Below w.heap.size w w' := by
  have z0 := block_cell h 0; have z2 := block_cell h 2
  have hg := block_lt h
  simp at z0 z2
  clear h
  go_enter Try.func83, Try.ntmps83
  go_wp2
  refine wp_region_tail 9 (by kernel_rfl) (by kernel_rfl) ?_
  simp only [List.take_succ_cons, List.take_zero, List.drop_succ_cons, List.drop_zero]
  repeat still_step
  refine wpStill_nil ?_
  go_wp2_with (go_at_call 60; refine (hfrom_mix s _).mono ?_; rintro e w1 ⟨rfl, hb1⟩; have hbw := (((Below.refl _ _).alloc (Nat.le_refl _) _).drew).trans (hb1.mono (by simp)); have hsz := hb1.size; simp at hsz; have Hbw := Lib.hid hbw; have hbx := block_below (w := ((w.alloc (.cells #[.int .u8 0, .int .u8 0, .int .u8 0, .int .u8 0, .int .u8 0, .int .u8 0, .int .u8 0, .int .u8 0] 29))).drew) (heap_alloc_new w _) hb1 (by simp); obtain ⟨zf, r0, r1, r2, r3, r4, r5, r6, r7⟩ := free8 hbx; have Hbx := Lib.hid hbx; clear hb1 hbw hbx)
  clear zf r0 r1 r2 r3 r4 r5 r6 r7
  have h8 := set8 Hbx.out (.int .u8 (s.out.x0 : Int)) (.int .u8 (s.out.x1 : Int)) (.int .u8 (s.out.x2 : Int)) (.int .u8 (s.out.x3 : Int)) (.int .u8 (s.out.x4 : Int)) (.int .u8 (s.out.x5 : Int)) (.int .u8 (s.out.x6 : Int)) (.int .u8 (s.out.x7 : Int))
  have hg8 := grown_set8 w1 (w.heap.size) (.int .u8 (s.out.x0 : Int)) (.int .u8 (s.out.x1 : Int)) (.int .u8 (s.out.x2 : Int)) (.int .u8 (s.out.x3 : Int)) (.int .u8 (s.out.x4 : Int)) (.int .u8 (s.out.x5 : Int)) (.int .u8 (s.out.x6 : Int)) (.int .u8 (s.out.x7 : Int))
  generalize ((((((((w1.setCell ⟨w.heap.size, 0, none⟩ (.int .u8 (s.out.x0 : Int))).setCell ⟨w.heap.size, 1, none⟩ (.int .u8 (s.out.x1 : Int))).setCell ⟨w.heap.size, 2, none⟩ (.int .u8 (s.out.x2 : Int))).setCell ⟨w.heap.size, 3, none⟩ (.int .u8 (s.out.x3 : Int))).setCell ⟨w.heap.size, 4, none⟩ (.int .u8 (s.out.x4 : Int))).setCell ⟨w.heap.size, 5, none⟩ (.int .u8 (s.out.x5 : Int))).setCell ⟨w.heap.size, 6, none⟩ (.int .u8 (s.out.x6 : Int))).setCell ⟨w.heap.size, 7, none⟩ (.int .u8 (s.out.x7 : Int))) = w2 at *
  obtain ⟨zf, r0, r1, r2, r3, r4, r5, r6, r7⟩ := free8 h8
  have Hb2 := Lib.hid (Hbw.out.grown hg8 Hbw.out.size (fun k hk => by injection hk with hk; omega))
  clear h8 hg8
  refine bodyPost_ret (v := .agg #[.int .u8 (s.out.x0 : Int), .int .u8 (s.out.x1 : Int), .int .u8 (s.out.x2 : Int), .int .u8 (s.out.x3 : Int), .int .u8 (s.out.x4 : Int), .int .u8 (s.out.x5 : Int), .int .u8 (s.out.x6 : Int), .int .u8 (s.out.x7 : Int)]) (by simp [results, Try.results83, go_sem, r0, r1, r2, r3, r4, r5, r6, r7]) rfl ⟨rfl, Hb2.out⟩
theorem Rd.grownNe {w w' : World} {B sz n g : Nat} {A : Option Addr} {xs : List Value} (h : Rd w B sz A n xs) (hg : w.grownBy w' (some g)) (hB : B ≤ w.heap.size) (hne : 0 < n → ∀ b o, A = some ⟨b, o, none⟩ → b ≠ g) : Rd w' B sz A n xs :=
  ⟨h.1, fun hn => by
    obtain ⟨b, o, e, hb, hc⟩ := h.2 hn
    exact ⟨b, o, e, hb, fun j u hu => (World.cell?_of_block (a := ⟨b, o + j, none⟩) (hg.block b (by omega) (fun e' => hne hn b o e (by injection e')))).trans (hc j u hu)⟩⟩
theorem run_arr (A : Option Addr) (c : Nat) (w' : World) : (Instr.arrayAt 29 (.slice A 8 c)).run Try.prog w' = .ok (.pointer A) w' := by
  simp [Instr.arrayAt, run_underlying Try.underlying29]
theorem bv_getD {l : List Nat} {j : Nat} (h : j < l.length) : (bv l)[j]? = some (.int .u8 ((l.getD j 0 : Nat) : Int)) := by
  simp [bv, List.getD_eq_getElem?_getD, List.getElem?_eq_getElem h]
theorem slice8 {w : World} {B n c k : Nat} {A : Option Addr} {l : List Nat} (hr : Rd w B 1 A n (bv l)) (hc : n ≤ c) (hk : k * 8 + 8 ≤ n) :
    ∃ b o, (∀ w', (Instr.sliceAt 32 (.slice A n c) (some (.int .i64 ((k : Int) * 8))) (some (.int .i64 ((k : Int) * 8 + 8))) none).run Try.prog w' = .ok (.slice (some ⟨b, o, none⟩) 8 (c - k * 8)) w') ∧
      w.cell? ⟨b, o, none⟩ = some (.int .u8 ((chunk l k).x0 : Int)) ∧ w.cell? ⟨b, o + 1, none⟩ = some (.int .u8 ((chunk l k).x1 : Int)) ∧ w.cell? ⟨b, o + 2, none⟩ = some (.int .u8 ((chunk l k).x2 : Int)) ∧ w.cell? ⟨b, o + 3, none⟩ = some (.int .u8 ((chunk l k).x3 : Int)) ∧
      w.cell? ⟨b, o + 4, none⟩ = some (.int .u8 ((chunk l k).x4 : Int)) ∧ w.cell? ⟨b, o + 5, none⟩ = some (.int .u8 ((chunk l k).x5 : Int)) ∧ w.cell? ⟨b, o + 6, none⟩ = some (.int .u8 ((chunk l k).x6 : Int)) ∧ w.cell? ⟨b, o + 7, none⟩ = some (.int .u8 ((chunk l k).x7 : Int)) := by
  have hl : l.length = n := by have := hr.1; rw [bv_len] at this; omega
  obtain ⟨A2, hs, hr2⟩ := slice_range elem_u8 sizeOf_u8 hr hc (k := k * 8) (m := k * 8 + 8) (by omega) (by omega)
  rw [show k * 8 + 8 - k * 8 = 8 by omega] at hr2 hs
  obtain ⟨b, o, rfl, _, hcell⟩ := hr2.2 (by omega)
  have e : ∀ j, j < 8 → (((bv l).drop (k * 8 * 1)).take (8 * 1))[j]? = some (.int .u8 ((l.getD (8 * k + j) 0 : Nat) : Int)) := fun j hj => by
    rw [List.getElem?_take_of_lt (by omega), List.getElem?_drop, show k * 8 * 1 + j = 8 * k + j by omega, bv_getD (by omega)]
  refine ⟨b, o, fun w' => ?_, ?_, ?_, ?_, ?_, ?_, ?_, ?_, ?_⟩
  · have := hs w'
    push_cast at this
    exact this
  · exact hcell 0 _ (e 0 (by omega))
  · exact hcell 1 _ (e 1 (by omega))
  · exact hcell 2 _ (e 2 (by omega))
  · exact hcell 3 _ (e 3 (by omega))
  · exact hcell 4 _ (e 4 (by omega))
  · exact hcell 5 _ (e 5 (by omega))
  · exact hcell 6 _ (e 6 (by omega))
  · exact hcell 7 _ (e 7 (by omega))
theorem take_at (g : Nat) (s : Hs) (n : Int) (w w0 : World) (h : Hid (StAt w g s)) (hw : Hid (w0.grownBy w (some g))) :
    Calls Try.prog 81 #[.pointer (some ⟨g, 0, none⟩), .int .u64 n] w fun e w' => e = .returned (.tuple #[]) ∧ Hid (StAt w' g (s.take n)) ∧ Hid (w0.grownBy w' (some g)) :=
  (take_any g s n w h.out).mono fun _ _ ⟨e, a, b⟩ => ⟨e, a, hw.out.trans b⟩
set_option maxRecDepth 100000 in
set_option maxHeartbeats 1000000 in
theorem whole_any (g : Nat) (s : Hs) (A : Option Addr) (n c : Nat) (l : List Nat) (w : World) (h : StAt w g s) (hr : Rd w w.heap.size 1 A n (bv l)) (hne : 0 < n → ∀ b o, A = some ⟨b, o, none⟩ → b ≠ g) (hn : n ≤ 1000000000) (hc : n ≤ c) (hb : ∀ x ∈ l, x < 256) :
    Calls Try.prog 88 #[.pointer (some ⟨g, 0, none⟩), .slice A n c] w fun e w' => e = .returned (.tuple #[]) ∧ StAt w' g (s.eat l (n / 8)) ∧ w.grownBy w' (some g) := by
  have H := Lib.hid h; have Hr := Lib.hid hr; have Hne := Lib.hid hne; have Hb := Lib.hid hb
  have Hlt := Lib.hid (block_lt h)
  clear h hr hne hb
  have hni : (n : Int) ≤ 1000000000 := by omega
  have hra := run_arr
  go_enter Try.func88, Try.ntmps88
  go_wp2
  go_loopw [8] (fun i wr => ∃ k : Nat, k ≤ n / 8 ∧ i = .int .i64 (k : Int) ∧ Hid (StAt wr g (s.eat l k)) ∧ Hid (w.grownBy wr (some g))) (fun i _ => n / 8 - (intOf i).toNat)
  case atStart => exact ⟨0, by omega, rfl, H, Lib.hid (World.grownBy.refl _ _)⟩
  case round =>
    obtain ⟨k, hk, rfl, Hs, Hg⟩ := hrel
    by_cases hlt : k < n / 8
    · have hd : decide ((k : Int) < (n : Int) / 8) = true := decide_eq_true (by omega)
      have hk8 : (k : Int) * 8 + 8 ≤ (n : Int) := by omega
      obtain ⟨b, o, hs, c0, c1, c2, c3, c4, c5, c6, c7⟩ := slice8 (k := k) (Hr.out.grownNe Hg.out (Nat.le_refl _) Hne.out) hc (by omega)
      have Hok := Lib.hid (chunk_ok Hb.out k)
      have Hchunk : Hid (s.eat l (k + 1) = (s.eat l k).take ((chunk l k).num : Int)) := Lib.hid rfl
      generalize chunk l k = d at *
      go_wp2_with fail
      refine (hnum_any d _ Hok.out).mono ?_
      rintro e w1 ⟨rfl, hb1⟩
      have Hs1 : Hid (StAt w1 g (s.eat l k)) := Lib.hid (block_below Hs.out hb1 (block_lt Hs.out))
      have Hg1 := Lib.hid (Hg.out.trans ⟨hb1.os, hb1.tape, hb1.output, hb1.size, fun j hj _ => hb1.block j hj⟩)
      clear hb1 c0 c1 c2 c3 c4 c5 c6 c7 hs
      go_wp2_with fail
      refine (take_at g _ _ _ w Hs1 Hg1).mono ?_
      rintro e w2 ⟨rfl, Hs2, Hg2⟩
      go_wp2
      go_roundw
      case rel => exact ⟨k + 1, by omega, by go_num, by rw [Hchunk.out]; exact Hs2, Hg2⟩
      case measure => simp [intOf]; omega
    · obtain rfl : k = n / 8 := by omega
      have hd : decide (((n / 8 : Nat) : Int) < (n : Int) / 8) = false := decide_eq_false (by omega)
      clear hlt hk
      go_wp2
      go_end0
      exact ⟨rfl, Hs.out, Hg.out⟩
end Go.Proofs.Ytmpklplojfjfbaa
