/- What a ring tells is as the reference's: the walk of told. Conditions: bounds. -/
import Derived.Test.YtmpklplojfjfbaaJoinT
import Derived.Test.YtmpklplojfjfbaaKjL
namespace Go.Proofs.Ytmpklplojfjfbaa
open Go.RowKit Go.Lib





set_option maxRecDepth 100000 in
set_option maxHeartbeats 8000000 in
theorem toldl_yes {w : World} {B : Nat} {F : Nat → Prop} {T0 T1 br : Nat} {r : RingM} (a : RingAt w B F T0 T1 br r) (s : D8) (A : Option Addr) (n c : Nat) (hr : Rd w w.heap.size 8 A n (flatD r.led)) :
    Calls Try.prog 18 #[.pointer (some ⟨br, 0, none⟩), .agg #[.int .u8 (s.x0 : Int), .int .u8 (s.x1 : Int), .int .u8 (s.x2 : Int), .int .u8 (s.x3 : Int), .int .u8 (s.x4 : Int), .int .u8 (s.x5 : Int), .int .u8 (s.x6 : Int), .int .u8 (s.x7 : Int), .int .i64 (r.h : Int), (.slice A n c)]] w fun e w' => e = .returned (.bool true) ∧ Below w.heap.size w w' := by
  have HS0 : Hid ((w.alloc (.cells #[.int .u8 (s.x0 : Int), .int .u8 (s.x1 : Int), .int .u8 (s.x2 : Int), .int .u8 (s.x3 : Int), .int .u8 (s.x4 : Int), .int .u8 (s.x5 : Int), .int .u8 (s.x6 : Int), .int .u8 (s.x7 : Int), .int .i64 (r.h : Int), (.slice A n c)] 39)).heap[w.heap.size]? = some (.cells #[.int .u8 (s.x0 : Int), .int .u8 (s.x1 : Int), .int .u8 (s.x2 : Int), .int .u8 (s.x3 : Int), .int .u8 (s.x4 : Int), .int .u8 (s.x5 : Int), .int .u8 (s.x6 : Int), .int .u8 (s.x7 : Int), .int .i64 (r.h : Int), (.slice A n c)] 39 (0, 0))) := heap_alloc_new w _
  have Hw0 := Lib.hid (h_one w (.cells #[.int .u8 (s.x0 : Int), .int .u8 (s.x1 : Int), .int .u8 (s.x2 : Int), .int .u8 (s.x3 : Int), .int .u8 (s.x4 : Int), .int .u8 (s.x5 : Int), .int .u8 (s.x6 : Int), .int .u8 (s.x7 : Int), .int .i64 (r.h : Int), (.slice A n c)] 39))
  have HA0 := Lib.hid (a.below Hw0.out)
  have Hl := Lib.hid hr.dlenD; have Hr := Lib.hid hr
  have hok := a.ok
  have hp := pow_le8 hok.2.1
  have hle := hok.2.2.2.2
  have Hh := Lib.hid hok.2.1
  obtain ⟨N, hN⟩ : ∃ N, N = 2 ^ r.h := ⟨_, rfl⟩
  rw [← hN] at hp hle
  have HN := Lib.hid hN
  have hnl : n = r.led.length := Hl.out.symm
  have hnN : n ≤ N := by omega
  have Hnl := Lib.hid hnl
  clear a hr hok hN hle hnl
  go_enter Try.func18, Try.ntmps18
  go_upto_region 1 with fail
  generalize w.alloc (.cells #[.int .u8 (s.x0 : Int), .int .u8 (s.x1 : Int), .int .u8 (s.x2 : Int), .int .u8 (s.x3 : Int), .int .u8 (s.x4 : Int), .int .u8 (s.x5 : Int), .int .u8 (s.x6 : Int), .int .u8 (s.x7 : Int), .int .i64 (r.h : Int), (.slice A n c)] 39) = v0 at *
  go_wp2_with fail
  refine (ledger_any (HA0.out.led.choose_spec.choose_spec.1) (by have := Hnl.out; omega)).mono ?_
  rintro e v1 ⟨A1, c1, rfl, ho1, hb1⟩
  rw [← Hnl.out] at ho1 ⊢
  have HA1 := Lib.hid (HA0.out.below hb1); have HS1 := Lib.hid (block_below HS0.out hb1 (block_lt HS0.out)); have Hw1 := Lib.hid (Hw0.out.trans (hb1.mono Hw0.out.size)); have Hr1 := Lib.hid (Rd.of_own ho1)
  clear ho1 hb1 HA0 HS0 Hw0
  go_wp2_with fail
  refine (digests_any A1 n c1 r.led v1 Hr1.out (by omega)).mono ?_
  rintro e v2 ⟨A2, c2, rfl, ho2, hb2⟩
  have HA2 := Lib.hid (HA1.out.below hb2); have HS2 := Lib.hid (block_below HS1.out hb2 (block_lt HS1.out)); have Hw2 := Lib.hid (Hw1.out.trans (hb2.mono Hw1.out.size)); have HO2 := Lib.hid (Rd.of_own ho2)
  clear ho2 hb2 HA1 HS1 Hw1 Hr1
  have hlb := block_lt HS2.out
  have hSl : ∀ w', Below v2.heap.size v2 w' → w'.cell? ⟨w.heap.size, 9, none⟩ = some (.slice A n c) := fun w' hx => (block_cell (block_below HS2.out hx hlb) 9).trans rfl
  have hHt : ∀ w', Below v2.heap.size v2 w' → w'.cell? ⟨w.heap.size, 8, none⟩ = some (.int .i64 (r.h : Int)) := fun w' hx => (block_cell (block_below HS2.out hx hlb) 8).trans rfl
  have hw1 : wrap64 ((N : Int) - (n : Int)) = ((N - n : Nat) : Int) := by simp only [wrap64]; omega
  have hw2 : IntKind.i64.wrap ((N : Int) - (n : Int)) = ((N - n : Nat) : Int) := by rw [IntKind.wrap_i64]; omega
  go_upto_region 2 with fail
  refine wp_region_held_drew (S := fun w' => Below v2.heap.size v2 w') (by kernel_rfl) ((Below.refl v2.heap.size v2).drew) (fun hHeld => ?_)
  rw [show Array.replicate _ false = (#[false, false, false, false, false, false, false, false, false, false, false, false, false, false, false, false, false, false, false, false, false, false, false, false, false, false, false] : Array Bool) from rfl]
  refine takeH 0 (some 9) (v := ?_) rfl (by kernel_rfl) (by kernel_rfl) (by kernel_rfl) (by kernel_rfl) (fun _ _ _ h => h) (Or.inl ⟨by kernel_rfl, ?hy⟩) (by assumption) ?_
  case hy =>
    intro w' hSw
    clear hSw
    first
      | (go_simp; done)
      | (go_simp; with_reducible rfl)
  simp only [Act.put, List.setIfInBounds_toArray, List.set_cons_zero, List.set_cons_succ]
  refine takeH 1 (some 10) (v := ?_) rfl (by kernel_rfl) (by kernel_rfl) (by kernel_rfl) (by kernel_rfl) (fun _ _ _ h => h) (Or.inl ⟨by kernel_rfl, ?hy⟩) (by assumption) ?_
  case hy =>
    intro w' hSw
    clear hSw
    first
      | (go_simp; done)
      | (go_simp; with_reducible rfl)
  simp only [Act.put, List.setIfInBounds_toArray, List.set_cons_zero, List.set_cons_succ]
  refine takeH 2 (some 11) (v := ?_) rfl (by kernel_rfl) (by kernel_rfl) (by kernel_rfl) (by kernel_rfl) (fun _ _ _ h => h) (Or.inl ⟨by kernel_rfl, ?hy⟩) (by assumption) ?_
  case hy =>
    intro w' hSw
    clear hSw
    first
      | (go_simp; done)
      | (go_simp; with_reducible rfl)
  simp only [Act.put, List.setIfInBounds_toArray, List.set_cons_zero, List.set_cons_succ]
  refine takeH 3 (some 12) (v := ?_) rfl (by kernel_rfl) (by kernel_rfl) (by kernel_rfl) (by kernel_rfl) (fun _ _ _ h => h) (Or.inl ⟨by kernel_rfl, ?hy⟩) (by assumption) ?_
  case hy =>
    intro w' hSw
    have hx := hSl w' hSw
    clear hSw
    first
      | (go_simp; done)
      | (go_simp; with_reducible rfl)
  simp only [Act.put, List.setIfInBounds_toArray, List.set_cons_zero, List.set_cons_succ]
  refine takeH 4 (some 13) (v := ?_) rfl (by kernel_rfl) (by kernel_rfl) (by kernel_rfl) (by kernel_rfl) (fun _ _ _ h => h) (Or.inl ⟨by kernel_rfl, ?hy⟩) (by assumption) ?_
  case hy =>
    intro w' hSw
    clear hSw
    first
      | (go_simp; done)
      | (go_simp; with_reducible rfl)
  simp only [Act.put, List.setIfInBounds_toArray, List.set_cons_zero, List.set_cons_succ]
  have hbd := (Below.refl v2.heap.size v2).drew
  have HOd := Lib.hid ((HO2.out.below hbd (Nat.le_refl _)).more hbd.size); have HRd := Lib.hid ((Hr.out.below (Hw2.out.drew) (Nat.le_refl _)).more Hw2.out.drew.size)
  have HAd := Lib.hid (HA2.out.below hbd)
  refine wpAnyH_ready (rs := [5]) (by kernel_rfl) (by simp) ?_
  refine AllReadyH.cons rfl (fun K hK => ?_) AllReadyH.nil
  rw [if_pos (by kernel_rfl)]
  go_simp
  refine (same06_any A2 A n c2 n c r.led r.led v2.drew HOd.out HRd.out (by omega)).mono ?_
  rintro e v3 ⟨rfl, hb3⟩
  rw [show decide (r.led = r.led) = true from decide_eq_true rfl]
  have HS3 := Lib.hid (hbd.trans (hb3.mono hbd.size)); have HA3 := Lib.hid (HAd.out.below hb3)
  clear hb3 hbd HOd HRd HAd
  refine hK.out _ _ HS3.out (fun _ => ?_)
  clear hK K
  simp only [List.setIfInBounds_toArray, List.set_cons_zero, List.set_cons_succ]
  have hS3 := HS3.out
  refine takeH 6 (some 15) (v := ?_) rfl (by kernel_rfl) (by kernel_rfl) (by kernel_rfl) (by kernel_rfl) (fun _ _ _ h => h) (Or.inl ⟨by kernel_rfl, ?hy⟩) (by assumption) ?_
  case hy =>
    intro w' hSw
    clear hSw
    first
      | (go_simp; done)
      | (go_simp; with_reducible rfl)
  simp only [Act.put, List.setIfInBounds_toArray, List.set_cons_zero, List.set_cons_succ]
  refine takeH 7 (some 16) (v := ?_) rfl (by kernel_rfl) (by kernel_rfl) (by kernel_rfl) (by kernel_rfl) (fun _ _ _ h => h) (Or.inl ⟨by kernel_rfl, ?hy⟩) (by assumption) ?_
  case hy =>
    intro w' hSw
    clear hSw
    first
      | (go_simp; done)
      | (go_simp; with_reducible rfl)
  simp only [Act.put, List.setIfInBounds_toArray, List.set_cons_zero, List.set_cons_succ]
  refine takeH 9 (some 18) (v := ?_) rfl (by kernel_rfl) (by kernel_rfl) (by kernel_rfl) (by kernel_rfl) (fun _ _ _ h => h) (Or.inl ⟨by kernel_rfl, ?hy⟩) (by assumption) ?_
  case hy =>
    intro w' hSw
    clear hSw
    first
      | (go_simp; done)
      | (go_simp; with_reducible rfl)
  simp only [Act.put, List.setIfInBounds_toArray, List.set_cons_zero, List.set_cons_succ]
  refine takeH 10 (some 19) (v := ?_) rfl (by kernel_rfl) (by kernel_rfl) (by kernel_rfl) (by kernel_rfl) (fun _ _ _ h => h) (Or.inl ⟨by kernel_rfl, ?hy⟩) (by assumption) ?_
  case hy =>
    intro w' hSw
    have hx := hSl w' hSw
    clear hSw
    first
      | (go_simp; done)
      | (go_simp; with_reducible rfl)
  simp only [Act.put, List.setIfInBounds_toArray, List.set_cons_zero, List.set_cons_succ]
  refine takeH 11 (some 20) (v := ?_) rfl (by kernel_rfl) (by kernel_rfl) (by kernel_rfl) (by kernel_rfl) (fun _ _ _ h => h) (Or.inl ⟨by kernel_rfl, ?hy⟩) (by assumption) ?_
  case hy =>
    intro w' hSw
    clear hSw
    first
      | (go_simp; done)
      | (go_simp; with_reducible rfl)
  simp only [Act.put, List.setIfInBounds_toArray, List.set_cons_zero, List.set_cons_succ]
  refine wpAnyH_ready (rs := [8]) (by kernel_rfl) (by simp) ?_
  refine AllReadyH.cons rfl (fun K hK => ?_) AllReadyH.nil
  rw [if_pos (by kernel_rfl)]
  go_simp
  refine (used_led (HA3.out.led.choose_spec.choose_spec.1)).mono ?_
  rintro e v4 ⟨rfl, hb4⟩
  rw [← Hnl.out]
  have HS4 := Lib.hid (HS3.out.trans (hb4.mono HS3.out.size)); have HA4 := Lib.hid (HA3.out.below hb4)
  clear hb4 hS3 HS3 HA3
  refine hK.out _ _ HS4.out (fun _ => ?_)
  clear hK K
  simp only [List.setIfInBounds_toArray, List.set_cons_zero, List.set_cons_succ]
  have hS4 := HS4.out
  refine takeH 12 (some 21) (v := ?_) rfl (by kernel_rfl) (by kernel_rfl) (by kernel_rfl) (by kernel_rfl) (fun _ _ _ h => h) (Or.inl ⟨by kernel_rfl, ?hy⟩) (by assumption) ?_
  case hy =>
    intro w' hSw
    clear hSw
    first
      | (go_simp; done)
      | (go_simp; with_reducible rfl)
  simp only [Act.put, List.setIfInBounds_toArray, List.set_cons_zero, List.set_cons_succ]
  refine takeH 13 (some 22) (v := ?_) rfl (by kernel_rfl) (by kernel_rfl) (by kernel_rfl) (by kernel_rfl) (fun _ _ _ h => h) (Or.inl ⟨by kernel_rfl, ?hy⟩) (by assumption) ?_
  case hy =>
    intro w' hSw
    clear hSw
    first
      | (go_simp; done)
      | (go_simp; with_reducible rfl)
  simp only [Act.put, List.setIfInBounds_toArray, List.set_cons_zero, List.set_cons_succ]
  refine takeH 14 (some 23) (v := ?_) rfl (by kernel_rfl) (by kernel_rfl) (by kernel_rfl) (by kernel_rfl) (fun _ _ _ h => h) (Or.inl ⟨by kernel_rfl, ?hy⟩) (by assumption) ?_
  case hy =>
    intro w' hSw
    clear hSw
    first
      | (go_simp; done)
      | (go_simp; with_reducible rfl)
  simp only [Act.put, List.setIfInBounds_toArray, List.set_cons_zero, List.set_cons_succ]
  refine takeH 15 (some 24) (v := ?_) rfl (by kernel_rfl) (by kernel_rfl) (by kernel_rfl) (by kernel_rfl) (fun _ _ _ h => h) (Or.inl ⟨by kernel_rfl, ?hy⟩) (by assumption) ?_
  case hy =>
    intro w' hSw
    clear hSw
    first
      | (go_simp; done)
      | (go_simp; with_reducible rfl)
  simp only [Act.put, List.setIfInBounds_toArray, List.set_cons_zero, List.set_cons_succ]
  refine takeH 17 (some 26) (v := ?_) rfl (by kernel_rfl) (by kernel_rfl) (by kernel_rfl) (by kernel_rfl) (fun _ _ _ h => h) (Or.inl ⟨by kernel_rfl, ?hy⟩) (by assumption) ?_
  case hy =>
    intro w' hSw
    clear hSw
    first
      | (go_simp; done)
      | (go_simp; with_reducible rfl)
  simp only [Act.put, List.setIfInBounds_toArray, List.set_cons_zero, List.set_cons_succ]
  refine takeH 18 (some 27) (v := ?_) rfl (by kernel_rfl) (by kernel_rfl) (by kernel_rfl) (by kernel_rfl) (fun _ _ _ h => h) (Or.inl ⟨by kernel_rfl, ?hy⟩) (by assumption) ?_
  case hy =>
    intro w' hSw
    have hx := hHt w' hSw
    clear hSw
    first
      | (go_simp; done)
      | (go_simp; with_reducible rfl)
  simp only [Act.put, List.setIfInBounds_toArray, List.set_cons_zero, List.set_cons_succ]
  refine takeH 20 (some 29) (v := ?_) rfl (by kernel_rfl) (by kernel_rfl) (by kernel_rfl) (by kernel_rfl) (fun _ _ _ h => h) (Or.inl ⟨by kernel_rfl, ?hy⟩) (by assumption) ?_
  case hy =>
    intro w' hSw
    clear hSw
    first
      | (go_simp; done)
      | (go_simp; with_reducible rfl)
  simp only [Act.put, List.setIfInBounds_toArray, List.set_cons_zero, List.set_cons_succ]
  refine takeH 21 (some 30) (v := ?_) rfl (by kernel_rfl) (by kernel_rfl) (by kernel_rfl) (by kernel_rfl) (fun _ _ _ h => h) (Or.inl ⟨by kernel_rfl, ?hy⟩) (by assumption) ?_
  case hy =>
    intro w' hSw
    have hx := hSl w' hSw
    clear hSw
    first
      | (go_simp; done)
      | (go_simp; with_reducible rfl)
  simp only [Act.put, List.setIfInBounds_toArray, List.set_cons_zero, List.set_cons_succ]
  refine takeH 22 (some 31) (v := ?_) rfl (by kernel_rfl) (by kernel_rfl) (by kernel_rfl) (by kernel_rfl) (fun _ _ _ h => h) (Or.inl ⟨by kernel_rfl, ?hy⟩) (by assumption) ?_
  case hy =>
    intro w' hSw
    clear hSw
    first
      | (go_simp; done)
      | (go_simp; with_reducible rfl)
  simp only [Act.put, List.setIfInBounds_toArray, List.set_cons_zero, List.set_cons_succ]
  refine wpAnyH_ready (rs := [16]) (by kernel_rfl) (by simp) ?_
  refine AllReadyH.cons rfl (fun K hK => ?_) AllReadyH.nil
  rw [if_pos (by kernel_rfl)]
  go_simp
  refine (left_led (HA4.out.led.choose_spec.choose_spec.1) Hh.out (by rw [← HN.out, ← Hnl.out]; exact hnN)).mono ?_
  rintro e v5 ⟨rfl, hb5⟩
  rw [← HN.out, ← Hnl.out]
  have HS5 := Lib.hid (HS4.out.trans (hb5.mono HS4.out.size))
  clear hb5 hS4 HS4 HA4
  refine hK.out _ _ HS5.out (fun _ => ?_)
  clear hK K
  simp only [List.setIfInBounds_toArray, List.set_cons_zero, List.set_cons_succ]
  have hS5 := HS5.out
  refine wpAnyH_ready (rs := [19]) (by kernel_rfl) (by simp) ?_
  refine AllReadyH.cons rfl (fun K hK => ?_) AllReadyH.nil
  rw [if_pos (by kernel_rfl)]
  go_simp
  refine (manyr_any r.h v5 Hh.out).mono ?_
  rintro e v6 ⟨rfl, rfl⟩
  rw [← HN.out]
  refine hK.out _ _ hS5 (fun _ => ?_)
  clear hK K
  simp only [List.setIfInBounds_toArray, List.set_cons_zero, List.set_cons_succ]
  refine takeH 23 (some 32) (v := ?_) rfl (by kernel_rfl) (by kernel_rfl) (by kernel_rfl) (by kernel_rfl) (fun _ _ _ h => h) (Or.inl ⟨by kernel_rfl, ?hy⟩) (by assumption) ?_
  case hy =>
    intro w' hSw
    clear hSw
    first
      | (go_simp; done)
      | (go_simp; with_reducible rfl)
  simp only [Act.put, List.setIfInBounds_toArray, List.set_cons_zero, List.set_cons_succ]
  refine takeH 24 (some 33) (v := ?_) rfl (by kernel_rfl) (by kernel_rfl) (by kernel_rfl) (by kernel_rfl) (fun _ _ _ h => h) (Or.inl ⟨by kernel_rfl, ?hy⟩) (by assumption) ?_
  case hy =>
    intro w' hSw
    clear hSw
    first
      | (go_simp; done)
      | (go_simp; with_reducible rfl)
  simp only [Act.put, List.setIfInBounds_toArray, List.set_cons_zero, List.set_cons_succ]
  refine takeH 25 (some 34) (v := ?_) rfl (by kernel_rfl) (by kernel_rfl) (by kernel_rfl) (by kernel_rfl) (fun _ _ _ h => h) (Or.inl ⟨by kernel_rfl, ?hy⟩) (by assumption) ?_
  case hy =>
    intro w' hSw
    clear hSw
    first
      | (go_simp; done)
      | (go_simp; with_reducible rfl)
  simp only [Act.put, List.setIfInBounds_toArray, List.set_cons_zero, List.set_cons_succ]
  refine takeH 26 (some 4) (v := ?_) rfl (by kernel_rfl) (by kernel_rfl) (by kernel_rfl) (by kernel_rfl) (fun _ _ _ h => h) (Or.inl ⟨by kernel_rfl, ?hy⟩) (by assumption) ?_
  case hy =>
    intro w' hSw
    clear hSw
    first
      | (go_simp; done)
      | (go_simp; with_reducible rfl)
  simp only [Act.put, List.setIfInBounds_toArray, List.set_cons_zero, List.set_cons_succ]
  refine wpAnyH_done (by kernel_rfl) ?_ _
  have Hw6 := Lib.hid (Hw2.out.trans (HS5.out.mono Hw2.out.size))
  clear hSl hHt hS5
  go_wp2
  go_ret
  exact ⟨rfl, Hw6.out⟩
end Go.Proofs.Ytmpklplojfjfbaa
