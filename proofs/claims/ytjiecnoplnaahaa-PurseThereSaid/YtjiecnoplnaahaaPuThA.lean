/- The walk of PurseThere. Conditions: bounds. -/
import Derived.Test.YtjiecnoplnaahaaPuTa
import Derived.Test.YtjiecnoplnaahaaJoinE
namespace Go.Proofs.Ytjiecnoplnaahaa
open Go.RowKit Go.Lib



set_option maxRecDepth 100000 in
set_option maxHeartbeats 4000000 in
theorem purseThere_any (p : Pu) (A A' : Option Addr) (n c n' c' : Nat) (l : List Nat) (w : World) (hr : Rd w w.heap.size 11 A n (flatH p.held)) (hcap : n ≤ c) (hbo : p.bytesOk) (hr' : Rd w w.heap.size 1 A' n' (bv l)) (_ : n' ≤ c') (hlt : ∀ x ∈ l, x < 256) :
    Calls Try.prog 9 #[.agg #[.int .u8 (p.nm.x0 : Int), .int .u8 (p.nm.x1 : Int), .int .u8 (p.nm.x2 : Int), .int .u8 (p.nm.x3 : Int), .int .u8 (p.nm.x4 : Int), .int .u8 (p.nm.x5 : Int), .int .u8 (p.nm.x6 : Int), .int .u8 (p.nm.x7 : Int), .int .i64 p.no, .int .i64 p.h0, .int .i64 p.h1, .slice A n c], .slice A' n' c'] w fun e w' => e = .returned (.bool true) ∧ Below w.heap.size w w' := by
  have HX0 := Lib.hid (heap_alloc_new w (.cells #[.int .u8 (p.nm.x0 : Int), .int .u8 (p.nm.x1 : Int), .int .u8 (p.nm.x2 : Int), .int .u8 (p.nm.x3 : Int), .int .u8 (p.nm.x4 : Int), .int .u8 (p.nm.x5 : Int), .int .u8 (p.nm.x6 : Int), .int .u8 (p.nm.x7 : Int), .int .i64 p.no, .int .i64 p.h0, .int .i64 p.h1, .slice A n c] 26))
  have Hw0 := Lib.hid (below_one w (.cells #[.int .u8 (p.nm.x0 : Int), .int .u8 (p.nm.x1 : Int), .int .u8 (p.nm.x2 : Int), .int .u8 (p.nm.x3 : Int), .int .u8 (p.nm.x4 : Int), .int .u8 (p.nm.x5 : Int), .int .u8 (p.nm.x6 : Int), .int .u8 (p.nm.x7 : Int), .int .i64 p.no, .int .i64 p.h0, .int .i64 p.h1, .slice A n c] 26))
  have Hr := Lib.hid hr; have Hr' := Lib.hid hr'; have Hlt := Lib.hid hlt; have Hbo := Lib.hid hbo
  clear hr hr' hlt hbo
  by_cases h40 : 40 < n
  · have b1 : decide (40 < n) = true := decide_eq_true h40
    clear h40
    go_enter Try.func9, Try.ntmps9
    go_wp2_with (first | (go_at_call 11; refine (great_any p A n c _).mono ?_; rintro e w1 ⟨rfl, hb1⟩; have Hb1 := Lib.hid (Hw0.out.trans (hb1.mono (by simp))); clear hb1) | (go_at_call 12; refine (told_any _).mono ?_; rintro e w2 ⟨rfl, hb2⟩; have Hb2 := Lib.hid (Hb1.out.trans (hb2.mono Hb1.out.size)); clear hb2))
    go_ret
    exact ⟨rfl, Hb2.out⟩
  have b1 : decide (40 < n) = false := decide_eq_false h40
  by_cases h1000 : 1000 < n'
  · have b2 : decide (1000 < n') = true := decide_eq_true h1000
    go_enter Try.func9, Try.ntmps9
    go_wp2_with (first | (go_at_call 11; refine (great_any p A n c _).mono ?_; rintro e w1 ⟨rfl, hb1⟩; have Hb1 := Lib.hid (Hw0.out.trans (hb1.mono (by simp))); clear hb1) | (go_at_call 12; refine (told_any _).mono ?_; rintro e w2 ⟨rfl, hb2⟩; have Hb2 := Lib.hid (Hb1.out.trans (hb2.mono Hb1.out.size)); clear hb2))
    go_ret
    exact ⟨rfl, Hb2.out⟩
  have b2 : decide (1000 < n') = false := decide_eq_false h1000
  have HA0 := Lib.hid ((show PuV.At p A n c w from ⟨Hr.out, hcap, by omega⟩).up Hw0.out)
  have HL0 := Lib.hid (Hr'.out.up Hw0.out (Nat.le_refl _))
  have hbase := Hw0.out.size
  have hni : (n' : Int) ≤ 1000 := by omega
  have hnd : ∀ w, (binOp .neq 29 (.agg #[.int .u8 (p.digest.x0 : Int), .int .u8 (p.digest.x1 : Int), .int .u8 (p.digest.x2 : Int), .int .u8 (p.digest.x3 : Int), .int .u8 (p.digest.x4 : Int), .int .u8 (p.digest.x5 : Int), .int .u8 (p.digest.x6 : Int), .int .u8 (p.digest.x7 : Int)]) (.agg #[.int .u8 (p.digest.x0 : Int), .int .u8 (p.digest.x1 : Int), .int .u8 (p.digest.x2 : Int), .int .u8 (p.digest.x3 : Int), .int .u8 (p.digest.x4 : Int), .int .u8 (p.digest.x5 : Int), .int .u8 (p.digest.x6 : Int), .int .u8 (p.digest.x7 : Int)])).run Try.prog w = .ok (.bool false) w := fun w => by rw [neq_dig]; simp [eqI]
  have hpp : p.held.length = n := Hr.out.hlen
  have Hpl := Lib.hid hpp
  clear hpp hbase
  by_cases hp : p.check = 0
  · have Hp := Lib.hid hp
    have hde := Lib.hid (dec_enc hp)
    clear hp
    go_enter Try.func9, Try.ntmps9
    go_wp2_with fail
    generalize w.alloc (.cells #[.int .u8 (p.nm.x0 : Int), .int .u8 (p.nm.x1 : Int), .int .u8 (p.nm.x2 : Int), .int .u8 (p.nm.x3 : Int), .int .u8 (p.nm.x4 : Int), .int .u8 (p.nm.x5 : Int), .int .u8 (p.nm.x6 : Int), .int .u8 (p.nm.x7 : Int), .int .i64 p.no, .int .i64 p.h0, .int .i64 p.h1, .slice A n c] 26) = w0 at *
    refine (great_any p A n c w0).mono ?_
    rintro e w1 ⟨rfl, hb1⟩
    have HX1 := Lib.hid (block_below HX0.out hb1 (block_lt HX0.out)); have Hw1 := Lib.hid (Hw0.out.trans (hb1.mono Hw0.out.size)); have HA1 := Lib.hid (HA0.out.up hb1); have HL1 := Lib.hid (HL0.out.up hb1 (Nat.le_refl _))
    clear hb1
    have r := block_cell HX1.out
    have r0 := r 0; have r1 := r 1; have r2 := r 2; have r3 := r 3; have r4 := r 4; have r5 := r 5; have r6 := r 6; have r7 := r 7; have r8 := r 8; have r9 := r 9; have r10 := r 10; have r11 := r 11
    have rf := block_free HX1.out
    simp at r0 r1 r2 r3 r4 r5 r6 r7 r8 r9 r10 r11
    clear r
    go_wp2_with fail
    refine (own_any p A n c w1 HA1.out).mono ?_
    rintro e w2 ⟨A2, n2, c2', rfl, ho, hb1⟩
    have HX2 := Lib.hid (block_below HX1.out hb1 (block_lt HX1.out)); have Hw2 := Lib.hid (Hw1.out.trans (hb1.mono Hw1.out.size)); have HA2 := Lib.hid (HA1.out.up hb1); have HL2 := Lib.hid (HL1.out.up hb1 (Nat.le_refl _))
    have HP2 := Lib.hid (pat_own ho (by have := (Rd.of_own ho).hlen; have := Hpl.out; omega))
    clear ho hb1 r0 r1 r2 r3 r4 r5 r6 r7 r8 r9 r10 r11 rf
    go_upto_region 4 with fail
    have hb1 := below_one w2 (.cells #[.int .u8 (p.nm.x0 : Int), .int .u8 (p.nm.x1 : Int), .int .u8 (p.nm.x2 : Int), .int .u8 (p.nm.x3 : Int), .int .u8 (p.nm.x4 : Int), .int .u8 (p.nm.x5 : Int), .int .u8 (p.nm.x6 : Int), .int .u8 (p.nm.x7 : Int), .int .i64 p.no, .int .i64 p.h0, .int .i64 p.h1, .slice A2 n2 c2'] 32)
    have HY3 := Lib.hid (heap_alloc_new w2 (.cells #[.int .u8 (p.nm.x0 : Int), .int .u8 (p.nm.x1 : Int), .int .u8 (p.nm.x2 : Int), .int .u8 (p.nm.x3 : Int), .int .u8 (p.nm.x4 : Int), .int .u8 (p.nm.x5 : Int), .int .u8 (p.nm.x6 : Int), .int .u8 (p.nm.x7 : Int), .int .i64 p.no, .int .i64 p.h0, .int .i64 p.h1, .slice A2 n2 c2'] 32))
    have HX3 := Lib.hid (block_below HX2.out hb1 (block_lt HX2.out)); have Hw3 := Lib.hid (Hw2.out.trans (hb1.mono Hw2.out.size)); have HA3 := Lib.hid (HA2.out.up hb1); have HL3 := Lib.hid (HL2.out.up hb1 (Nat.le_refl _))
    have HP3 := Lib.hid (HP2.out.up hb1)
    clear hb1
    generalize w2.alloc (.cells #[.int .u8 (p.nm.x0 : Int), .int .u8 (p.nm.x1 : Int), .int .u8 (p.nm.x2 : Int), .int .u8 (p.nm.x3 : Int), .int .u8 (p.nm.x4 : Int), .int .u8 (p.nm.x5 : Int), .int .u8 (p.nm.x6 : Int), .int .u8 (p.nm.x7 : Int), .int .i64 p.no, .int .i64 p.h0, .int .i64 p.h1, .slice A2 n2 c2'] 32) = w3 at *
    generalize w2.heap.size = gx at *
    have r := block_cell HY3.out
    have r0 := r 0; have r1 := r 1; have r2 := r 2; have r3 := r 3; have r4 := r 4; have r5 := r 5; have r6 := r 6; have r7 := r 7; have r8 := r 8; have r9 := r 9; have r10 := r 10; have r11 := r 11
    have rf := block_free HY3.out
    simp at r0 r1 r2 r3 r4 r5 r6 r7 r8 r9 r10 r11
    clear r
    go_wp2_with fail
    refine (encode_good p A2 n2 c2' w3 HP3.out Hp.out).mono ?_
    rintro e w4 ⟨A4, n4, c4, rfl, ho, hn4, hb1⟩
    have HX4 := Lib.hid (block_below HX3.out hb1 (block_lt HX3.out)); have Hw4 := Lib.hid (Hw3.out.trans (hb1.mono Hw3.out.size)); have HA4 := Lib.hid (HA3.out.up hb1); have HL4 := Lib.hid (HL3.out.up hb1 (Nat.le_refl _))
    have HY4 := Lib.hid (block_below HY3.out hb1 (block_lt HY3.out)); have HP4 := Lib.hid (HP3.out.up hb1); have HE4 := Lib.hid (Rd.of_own ho); have Hn4 := Lib.hid hn4
    have hn4' : n4 ≤ 1000 := by
      obtain ⟨_, _, _, h7, _⟩ := check_parts Hp.out
      rw [hn4]; have := encPu_len p; omega
    clear ho hb1 hn4 r0 r1 r2 r3 r4 r5 r6 r7 r8 r9 r10 r11 rf
    go_wp2_with fail
    refine (pdec_any A4 n4 c4 (encPu p) w4 HE4.out (by omega) (encPu_lt Hp.out Hbo.out)).mono ?_
    rw [hde.out]
    rintro e w5 ⟨A5, n5, c5, rfl, ho, hb1⟩
    have HX5 := Lib.hid (block_below HX4.out hb1 (block_lt HX4.out)); have Hw5 := Lib.hid (Hw4.out.trans (hb1.mono Hw4.out.size)); have HA5 := Lib.hid (HA4.out.up hb1); have HL5 := Lib.hid (HL4.out.up hb1 (Nat.le_refl _))
    have HY5 := Lib.hid (block_below HY4.out hb1 (block_lt HY4.out)); have HP5 := Lib.hid (HP4.out.up hb1)
    have HQ5 := Lib.hid (pat_own (p := p) ho (by have h9 : p.held.length = n5 := (Rd.of_own (w := w5) ho).hlen; have := Hpl.out; omega))
    clear ho hb1
    go_upto_region 7 with fail
    have hb1 := below_one w5 (.cells #[.int .u8 (p.nm.x0 : Int), .int .u8 (p.nm.x1 : Int), .int .u8 (p.nm.x2 : Int), .int .u8 (p.nm.x3 : Int), .int .u8 (p.nm.x4 : Int), .int .u8 (p.nm.x5 : Int), .int .u8 (p.nm.x6 : Int), .int .u8 (p.nm.x7 : Int), .int .i64 p.no, .int .i64 p.h0, .int .i64 p.h1, .slice A5 n5 c5] 32)
    have HZ6 := Lib.hid (heap_alloc_new w5 (.cells #[.int .u8 (p.nm.x0 : Int), .int .u8 (p.nm.x1 : Int), .int .u8 (p.nm.x2 : Int), .int .u8 (p.nm.x3 : Int), .int .u8 (p.nm.x4 : Int), .int .u8 (p.nm.x5 : Int), .int .u8 (p.nm.x6 : Int), .int .u8 (p.nm.x7 : Int), .int .i64 p.no, .int .i64 p.h0, .int .i64 p.h1, .slice A5 n5 c5] 32))
    have HX6 := Lib.hid (block_below HX5.out hb1 (block_lt HX5.out)); have Hw6 := Lib.hid (Hw5.out.trans (hb1.mono Hw5.out.size)); have HA6 := Lib.hid (HA5.out.up hb1); have HL6 := Lib.hid (HL5.out.up hb1 (Nat.le_refl _))
    have HY6 := Lib.hid (block_below HY5.out hb1 (block_lt HY5.out)); have HP6 := Lib.hid (HP5.out.up hb1); have HQ6 := Lib.hid (HQ5.out.up hb1)
    clear hb1
    generalize w5.alloc (.cells #[.int .u8 (p.nm.x0 : Int), .int .u8 (p.nm.x1 : Int), .int .u8 (p.nm.x2 : Int), .int .u8 (p.nm.x3 : Int), .int .u8 (p.nm.x4 : Int), .int .u8 (p.nm.x5 : Int), .int .u8 (p.nm.x6 : Int), .int .u8 (p.nm.x7 : Int), .int .i64 p.no, .int .i64 p.h0, .int .i64 p.h1, .slice A5 n5 c5] 32) = w6 at *
    generalize w5.heap.size = gy at *
    have hss : p.same p = true := Pu.same_iff.2 rfl
    refine wp_region_held_drew (S := fun w' => (w'.cell? ⟨gx, 0, none⟩ = some (.int .u8 (p.nm.x0 : Int)) ∧ w'.cell? ⟨gx, 1, none⟩ = some (.int .u8 (p.nm.x1 : Int)) ∧ w'.cell? ⟨gx, 2, none⟩ = some (.int .u8 (p.nm.x2 : Int)) ∧ w'.cell? ⟨gx, 3, none⟩ = some (.int .u8 (p.nm.x3 : Int)) ∧ w'.cell? ⟨gx, 4, none⟩ = some (.int .u8 (p.nm.x4 : Int)) ∧ w'.cell? ⟨gx, 5, none⟩ = some (.int .u8 (p.nm.x5 : Int)) ∧ w'.cell? ⟨gx, 6, none⟩ = some (.int .u8 (p.nm.x6 : Int)) ∧ w'.cell? ⟨gx, 7, none⟩ = some (.int .u8 (p.nm.x7 : Int)) ∧ w'.cell? ⟨gx, 8, none⟩ = some (.int .i64 p.no) ∧ w'.cell? ⟨gx, 9, none⟩ = some (.int .i64 p.h0) ∧ w'.cell? ⟨gx, 10, none⟩ = some (.int .i64 p.h1) ∧ w'.cell? ⟨gx, 11, none⟩ = some (.slice A2 n2 c2')) ∧ (w'.cell? ⟨gy, 0, none⟩ = some (.int .u8 (p.nm.x0 : Int)) ∧ w'.cell? ⟨gy, 1, none⟩ = some (.int .u8 (p.nm.x1 : Int)) ∧ w'.cell? ⟨gy, 2, none⟩ = some (.int .u8 (p.nm.x2 : Int)) ∧ w'.cell? ⟨gy, 3, none⟩ = some (.int .u8 (p.nm.x3 : Int)) ∧ w'.cell? ⟨gy, 4, none⟩ = some (.int .u8 (p.nm.x4 : Int)) ∧ w'.cell? ⟨gy, 5, none⟩ = some (.int .u8 (p.nm.x5 : Int)) ∧ w'.cell? ⟨gy, 6, none⟩ = some (.int .u8 (p.nm.x6 : Int)) ∧ w'.cell? ⟨gy, 7, none⟩ = some (.int .u8 (p.nm.x7 : Int)) ∧ w'.cell? ⟨gy, 8, none⟩ = some (.int .i64 p.no) ∧ w'.cell? ⟨gy, 9, none⟩ = some (.int .i64 p.h0) ∧ w'.cell? ⟨gy, 10, none⟩ = some (.int .i64 p.h1) ∧ w'.cell? ⟨gy, 11, none⟩ = some (.slice A5 n5 c5))) (by kernel_rfl) ⟨psg_of (w := w6.drew) HY6.out, psg_of (w := w6.drew) HZ6.out⟩ (fun hHeld => ?_)
    refine takeH 0 (some 36) (v := ?_) rfl (by kernel_rfl) (by kernel_rfl) (by kernel_rfl) (by kernel_rfl) (fun _ _ _ h => h) (Or.inl ⟨by kernel_rfl, ?hy⟩) (by assumption) ?_
    case hy =>
      intro w' hSw
      try dsimp only at hSw
      first
        | (go_simp; done)
        | (go_simp; with_reducible rfl)
    simp only [Act.put, List.setIfInBounds_toArray, List.set_cons_zero, List.set_cons_succ]
    refine takeH 1 (some 37) (v := ?_) rfl (by kernel_rfl) (by kernel_rfl) (by kernel_rfl) (by kernel_rfl) (fun _ _ _ h => h) (Or.inl ⟨by kernel_rfl, ?hy⟩) (by assumption) ?_
    case hy =>
      intro w' hSw
      try dsimp only at hSw
      first
        | (go_simp; done)
        | (go_simp; with_reducible rfl)
    simp only [Act.put, List.setIfInBounds_toArray, List.set_cons_zero, List.set_cons_succ]
    refine takeH 2 (some 38) (v := ?_) rfl (by kernel_rfl) (by kernel_rfl) (by kernel_rfl) (by kernel_rfl) (fun _ _ _ h => h) (Or.inl ⟨by kernel_rfl, ?hy⟩) (by assumption) ?_
    case hy =>
      intro w' hSw
      try dsimp only at hSw
      first
        | (go_simp; done)
        | (go_simp; with_reducible rfl)
    simp only [Act.put, List.setIfInBounds_toArray, List.set_cons_zero, List.set_cons_succ]
    refine takeH 3 (some 39) (v := ?_) rfl (by kernel_rfl) (by kernel_rfl) (by kernel_rfl) (by kernel_rfl) (fun _ _ _ h => h) (Or.inl ⟨by kernel_rfl, ?hy⟩) (by assumption) ?_
    case hy =>
      intro w' hSw
      try dsimp only at hSw
      first
        | (go_simp; done)
        | (go_simp; with_reducible rfl)
    simp only [Act.put, List.setIfInBounds_toArray, List.set_cons_zero, List.set_cons_succ]
    refine takeH 4 (some 40) (v := ?_) rfl (by kernel_rfl) (by kernel_rfl) (by kernel_rfl) (by kernel_rfl) (fun _ _ _ h => h) (Or.inl ⟨by kernel_rfl, ?hy⟩) (by assumption) ?_
    case hy =>
      intro w' hSw
      try dsimp only at hSw
      first
        | (go_simp; done)
        | (go_simp; with_reducible rfl)
    simp only [Act.put, List.setIfInBounds_toArray, List.set_cons_zero, List.set_cons_succ]
    refine wpAnyH_ready (rs := [5]) (by kernel_rfl) (by simp) ?_
    refine AllReadyH.cons rfl (fun K hK => ?_) AllReadyH.nil
    rw [if_pos (by kernel_rfl)]
    go_simp
    refine (psame_any p p A2 A5 n2 c2' n5 c5 w6.drew (HP6.out.up (Below.refl _ _).drew) (HQ6.out.up (Below.refl _ _).drew)).mono ?_
    rw [hss]
    rintro e w7 ⟨rfl, hb1d⟩
    have hb1 := drew_below hb1d
    have HX7 := Lib.hid (block_below HX6.out hb1 (block_lt HX6.out)); have Hw7 := Lib.hid (Hw6.out.trans (hb1.mono Hw6.out.size)); have HA7 := Lib.hid (HA6.out.up hb1); have HL7 := Lib.hid (HL6.out.up hb1 (Nat.le_refl _))
    have HY7 := Lib.hid (block_below HY6.out hb1 (block_lt HY6.out)); have HZ7 := Lib.hid (block_below HZ6.out hb1 (block_lt HZ6.out)); have HP7 := Lib.hid (HP6.out.up hb1); have HQ7 := Lib.hid (HQ6.out.up hb1)
    clear hb1 hb1d
    refine hK.out _ _ ⟨psg_of HY7.out, psg_of HZ7.out⟩ (fun hHeld => ?_)
    clear hK K
    refine takeH 6 (some 42) (v := ?_) rfl (by kernel_rfl) (by kernel_rfl) (by kernel_rfl) (by kernel_rfl) (fun _ _ _ h => h) (Or.inl ⟨by kernel_rfl, ?hy⟩) (by assumption) ?_
    case hy =>
      intro w' hSw
      try dsimp only at hSw
      first
        | (go_simp; done)
        | (go_simp; with_reducible rfl)
    simp only [Act.put, List.setIfInBounds_toArray, List.set_cons_zero, List.set_cons_succ]
    refine takeH 7 (some 43) (v := ?_) rfl (by kernel_rfl) (by kernel_rfl) (by kernel_rfl) (by kernel_rfl) (fun _ _ _ h => h) (Or.inl ⟨by kernel_rfl, ?hy⟩) (by assumption) ?_
    case hy =>
      intro w' hSw
      try dsimp only at hSw
      first
        | (go_simp; done)
        | (go_simp; with_reducible rfl)
    simp only [Act.put, List.setIfInBounds_toArray, List.set_cons_zero, List.set_cons_succ]
    refine takeH 8 (some 44) (v := ?_) rfl (by kernel_rfl) (by kernel_rfl) (by kernel_rfl) (by kernel_rfl) (fun _ _ _ h => h) (Or.inl ⟨by kernel_rfl, ?hy⟩) (by assumption) ?_
    case hy =>
      intro w' hSw
      try dsimp only at hSw
      first
        | (go_simp; done)
        | (go_simp; with_reducible rfl)
    simp only [Act.put, List.setIfInBounds_toArray, List.set_cons_zero, List.set_cons_succ]
    refine takeH 9 (some 45) (v := ?_) rfl (by kernel_rfl) (by kernel_rfl) (by kernel_rfl) (by kernel_rfl) (fun _ _ _ h => h) (Or.inl ⟨by kernel_rfl, ?hy⟩) (by assumption) ?_
    case hy =>
      intro w' hSw
      try dsimp only at hSw
      first
        | (go_simp; done)
        | (go_simp; with_reducible rfl)
    simp only [Act.put, List.setIfInBounds_toArray, List.set_cons_zero, List.set_cons_succ]
    refine takeH 11 (some 47) (v := ?_) rfl (by kernel_rfl) (by kernel_rfl) (by kernel_rfl) (by kernel_rfl) (fun _ _ _ h => h) (Or.inl ⟨by kernel_rfl, ?hy⟩) (by assumption) ?_
    case hy =>
      intro w' hSw
      try dsimp only at hSw
      first
        | (go_simp; done)
        | (go_simp; with_reducible rfl)
    simp only [Act.put, List.setIfInBounds_toArray, List.set_cons_zero, List.set_cons_succ]
    refine wpAnyH_ready (rs := [10]) (by kernel_rfl) (by simp) ?_
    refine AllReadyH.cons rfl (fun K hK => ?_) AllReadyH.nil
    rw [if_pos (by kernel_rfl)]
    go_simp
    refine (digest_any p A5 n5 c5 w7 HQ7.out Hbo.out).mono ?_
    rintro e w8 ⟨rfl, hb1⟩
    have HX8 := Lib.hid (block_below HX7.out hb1 (block_lt HX7.out)); have Hw8 := Lib.hid (Hw7.out.trans (hb1.mono Hw7.out.size)); have HA8 := Lib.hid (HA7.out.up hb1); have HL8 := Lib.hid (HL7.out.up hb1 (Nat.le_refl _))
    have HY8 := Lib.hid (block_below HY7.out hb1 (block_lt HY7.out)); have HZ8 := Lib.hid (block_below HZ7.out hb1 (block_lt HZ7.out)); have HP8 := Lib.hid (HP7.out.up hb1)
    clear hb1
    refine hK.out _ _ ⟨psg_of HY8.out, psg_of HZ8.out⟩ (fun hHeld => ?_)
    clear hK K
    refine wpAnyH_ready (rs := [12]) (by kernel_rfl) (by simp) ?_
    refine AllReadyH.cons rfl (fun K hK => ?_) AllReadyH.nil
    rw [if_pos (by kernel_rfl)]
    go_simp
    refine (digest_any p A2 n2 c2' w8 HP8.out Hbo.out).mono ?_
    rintro e w9 ⟨rfl, hb1⟩
    have HX9 := Lib.hid (block_below HX8.out hb1 (block_lt HX8.out)); have Hw9 := Lib.hid (Hw8.out.trans (hb1.mono Hw8.out.size)); have HA9 := Lib.hid (HA8.out.up hb1); have HL9 := Lib.hid (HL8.out.up hb1 (Nat.le_refl _))
    have HY9 := Lib.hid (block_below HY8.out hb1 (block_lt HY8.out)); have HZ9 := Lib.hid (block_below HZ8.out hb1 (block_lt HZ8.out))
    clear hb1
    generalize p.digest = d at *
    refine hK.out _ _ ⟨psg_of HY9.out, psg_of HZ9.out⟩ (fun hHeld => ?_)
    clear hK K
    refine takeH 13 (some 49) (v := ?_) rfl (by kernel_rfl) (by kernel_rfl) (by kernel_rfl) (by kernel_rfl) (fun _ _ _ h => h) (Or.inl ⟨by kernel_rfl, ?hy⟩) (by assumption) ?_
    case hy =>
      intro w' hSw
      try dsimp only at hSw
      first
        | (go_simp; done)
        | (go_simp; with_reducible rfl)
    simp only [Act.put, List.setIfInBounds_toArray, List.set_cons_zero, List.set_cons_succ]
    refine takeH 14 (some 50) (v := ?_) rfl (by kernel_rfl) (by kernel_rfl) (by kernel_rfl) (by kernel_rfl) (fun _ _ _ h => h) (Or.inl ⟨by kernel_rfl, ?hy⟩) (by assumption) ?_
    case hy =>
      intro w' hSw
      try dsimp only at hSw
      first
        | (go_simp; done)
        | (go_simp; with_reducible rfl)
    simp only [Act.put, List.setIfInBounds_toArray, List.set_cons_zero, List.set_cons_succ]
    refine wpAnyH_done (by kernel_rfl) ?_ _
    go_wp2_with fail
    refine (pdec_any A' n' c' l w9 HL9.out (by omega) Hlt.out).mono ?_
    rintro e w40 ⟨A40, n40, c40, rfl, ho, hb1⟩
    have HL40 := Lib.hid (HL9.out.up hb1 (Nat.le_refl _)); have Hw40 := Lib.hid (Hw9.out.trans (hb1.mono Hw9.out.size))
    have Hq16 := Lib.hid (decPu_held l)
    have Hed := Lib.hid (enc_dec (b := l) Hlt.out)
    generalize decPu l = q at *
    have HP40 := Lib.hid (pat_own ho (by have := (Rd.of_own ho).hlen; have := Hq16.out; omega))
    clear ho hb1
    go_upto_region 10 with fail
    have HY41 := Lib.hid (heap_alloc_new w40 (.cells #[.int .u8 (q.2.nm.x0 : Int), .int .u8 (q.2.nm.x1 : Int), .int .u8 (q.2.nm.x2 : Int), .int .u8 (q.2.nm.x3 : Int), .int .u8 (q.2.nm.x4 : Int), .int .u8 (q.2.nm.x5 : Int), .int .u8 (q.2.nm.x6 : Int), .int .u8 (q.2.nm.x7 : Int), .int .i64 q.2.no, .int .i64 q.2.h0, .int .i64 q.2.h1, .slice A40 n40 c40] 32))
    have hb1 := below_one w40 (.cells #[.int .u8 (q.2.nm.x0 : Int), .int .u8 (q.2.nm.x1 : Int), .int .u8 (q.2.nm.x2 : Int), .int .u8 (q.2.nm.x3 : Int), .int .u8 (q.2.nm.x4 : Int), .int .u8 (q.2.nm.x5 : Int), .int .u8 (q.2.nm.x6 : Int), .int .u8 (q.2.nm.x7 : Int), .int .i64 q.2.no, .int .i64 q.2.h0, .int .i64 q.2.h1, .slice A40 n40 c40] 32)
    have HL41 := Lib.hid (HL40.out.up hb1 (Nat.le_refl _)); have Hw41 := Lib.hid (Hw40.out.trans (hb1.mono Hw40.out.size)); have HP41 := Lib.hid (HP40.out.up hb1)
    clear hb1
    generalize w40.alloc (.cells #[.int .u8 (q.2.nm.x0 : Int), .int .u8 (q.2.nm.x1 : Int), .int .u8 (q.2.nm.x2 : Int), .int .u8 (q.2.nm.x3 : Int), .int .u8 (q.2.nm.x4 : Int), .int .u8 (q.2.nm.x5 : Int), .int .u8 (q.2.nm.x6 : Int), .int .u8 (q.2.nm.x7 : Int), .int .i64 q.2.no, .int .i64 q.2.h0, .int .i64 q.2.h1, .slice A40 n40 c40] 32) = w41 at *
    generalize w40.heap.size = gy2 at *
    by_cases hq0 : q.1 = 0
    ·
      obtain ⟨he1, he2⟩ := Hed.out hq0
      have d1 : (q.1 == 0) = true := by simp [hq0]
      have He1 := Lib.hid he1; have He2 := Lib.hid he2
      clear hq0 he1 he2
      have r := block_cell HY41.out
      have r0 := r 0; have r1 := r 1; have r2 := r 2; have r3 := r 3; have r4 := r 4; have r5 := r 5; have r6 := r 6; have r7 := r 7; have r8 := r 8; have r9 := r 9; have r10 := r 10; have r11 := r 11
      have rf := block_free HY41.out
      simp at r0 r1 r2 r3 r4 r5 r6 r7 r8 r9 r10 r11
      clear r
      go_wp2_with fail
      refine (encode_good q.2 A40 n40 c40 w41 HP41.out He2.out).mono ?_
      rw [He1.out]
      rintro e w42 ⟨A42, n42, c42, rfl, ho, hn42, hb1⟩
      have HL42 := Lib.hid (HL41.out.up hb1 (Nat.le_refl _)); have Hw42 := Lib.hid (Hw41.out.trans (hb1.mono Hw41.out.size))
      have HE42 := Lib.hid (Rd.of_own ho)
      clear ho hn42 hb1 r0 r1 r2 r3 r4 r5 r6 r7 r8 r9 r10 r11 rf
      have hcv := conv_bytes HE42.out c42 9 Try.underlying9
      have hcv2 := conv_bytes HL42.out c' 9 Try.underlying9
      have hss : ((strS l).toList != (strS l).toList) = false := by simp
      have hss2 : ((strS l).toList == (strS l).toList) = true := by simp
      go_wp2_with (go_at_call 12; refine (told_any _).mono ?_; rintro e w43 ⟨rfl, hb2⟩; have Hb43 := Lib.hid (Hw42.out.trans (hb2.mono Hw42.out.size)); clear hb2)
      go_ret
      exact ⟨rfl, Hb43.out⟩
    ·
      have d1 : (q.1 == 0) = false := by simp [hq0]
      clear hq0
      go_wp2_with (go_at_call 12; refine (told_any _).mono ?_; rintro e w43 ⟨rfl, hb2⟩; have Hb43 := Lib.hid (Hw41.out.trans (hb2.mono Hw41.out.size)); clear hb2)
      go_ret
      exact ⟨rfl, Hb43.out⟩
  · have Hp := Lib.hid hp
    have c2 : (p.check == 0) = false := by simp [hp]
    clear hp
    go_enter Try.func9, Try.ntmps9
    go_wp2_with fail
    generalize w.alloc (.cells #[.int .u8 (p.nm.x0 : Int), .int .u8 (p.nm.x1 : Int), .int .u8 (p.nm.x2 : Int), .int .u8 (p.nm.x3 : Int), .int .u8 (p.nm.x4 : Int), .int .u8 (p.nm.x5 : Int), .int .u8 (p.nm.x6 : Int), .int .u8 (p.nm.x7 : Int), .int .i64 p.no, .int .i64 p.h0, .int .i64 p.h1, .slice A n c] 26) = w0 at *
    refine (great_any p A n c w0).mono ?_
    rintro e w1 ⟨rfl, hb1⟩
    have HX1 := Lib.hid (block_below HX0.out hb1 (block_lt HX0.out)); have Hw1 := Lib.hid (Hw0.out.trans (hb1.mono Hw0.out.size)); have HA1 := Lib.hid (HA0.out.up hb1); have HL1 := Lib.hid (HL0.out.up hb1 (Nat.le_refl _))
    clear hb1
    have r := block_cell HX1.out
    have r0 := r 0; have r1 := r 1; have r2 := r 2; have r3 := r 3; have r4 := r 4; have r5 := r 5; have r6 := r 6; have r7 := r 7; have r8 := r 8; have r9 := r 9; have r10 := r 10; have r11 := r 11
    have rf := block_free HX1.out
    simp at r0 r1 r2 r3 r4 r5 r6 r7 r8 r9 r10 r11
    clear r
    go_wp2_with fail
    refine (own_any p A n c w1 HA1.out).mono ?_
    rintro e w2 ⟨A2, n2, c2', rfl, ho, hb1⟩
    have HX2 := Lib.hid (block_below HX1.out hb1 (block_lt HX1.out)); have Hw2 := Lib.hid (Hw1.out.trans (hb1.mono Hw1.out.size)); have HA2 := Lib.hid (HA1.out.up hb1); have HL2 := Lib.hid (HL1.out.up hb1 (Nat.le_refl _))
    have HP2 := Lib.hid (pat_own ho (by have := (Rd.of_own ho).hlen; have := Hpl.out; omega))
    clear ho hb1 r0 r1 r2 r3 r4 r5 r6 r7 r8 r9 r10 r11 rf
    go_upto_region 4 with fail
    have hb1 := below_one w2 (.cells #[.int .u8 (p.nm.x0 : Int), .int .u8 (p.nm.x1 : Int), .int .u8 (p.nm.x2 : Int), .int .u8 (p.nm.x3 : Int), .int .u8 (p.nm.x4 : Int), .int .u8 (p.nm.x5 : Int), .int .u8 (p.nm.x6 : Int), .int .u8 (p.nm.x7 : Int), .int .i64 p.no, .int .i64 p.h0, .int .i64 p.h1, .slice A2 n2 c2'] 32)
    have HY3 := Lib.hid (heap_alloc_new w2 (.cells #[.int .u8 (p.nm.x0 : Int), .int .u8 (p.nm.x1 : Int), .int .u8 (p.nm.x2 : Int), .int .u8 (p.nm.x3 : Int), .int .u8 (p.nm.x4 : Int), .int .u8 (p.nm.x5 : Int), .int .u8 (p.nm.x6 : Int), .int .u8 (p.nm.x7 : Int), .int .i64 p.no, .int .i64 p.h0, .int .i64 p.h1, .slice A2 n2 c2'] 32))
    have HX3 := Lib.hid (block_below HX2.out hb1 (block_lt HX2.out)); have Hw3 := Lib.hid (Hw2.out.trans (hb1.mono Hw2.out.size)); have HA3 := Lib.hid (HA2.out.up hb1); have HL3 := Lib.hid (HL2.out.up hb1 (Nat.le_refl _))
    have HP3 := Lib.hid (HP2.out.up hb1)
    clear hb1
    generalize w2.alloc (.cells #[.int .u8 (p.nm.x0 : Int), .int .u8 (p.nm.x1 : Int), .int .u8 (p.nm.x2 : Int), .int .u8 (p.nm.x3 : Int), .int .u8 (p.nm.x4 : Int), .int .u8 (p.nm.x5 : Int), .int .u8 (p.nm.x6 : Int), .int .u8 (p.nm.x7 : Int), .int .i64 p.no, .int .i64 p.h0, .int .i64 p.h1, .slice A2 n2 c2'] 32) = w3 at *
    generalize w2.heap.size = gx at *
    have r := block_cell HY3.out
    have r0 := r 0; have r1 := r 1; have r2 := r 2; have r3 := r 3; have r4 := r 4; have r5 := r 5; have r6 := r 6; have r7 := r 7; have r8 := r 8; have r9 := r 9; have r10 := r 10; have r11 := r 11
    have rf := block_free HY3.out
    simp at r0 r1 r2 r3 r4 r5 r6 r7 r8 r9 r10 r11
    clear r
    go_wp2_with fail
    refine (encode_bad p A2 n2 c2' w3 HP3.out Hp.out).mono ?_
    rintro e w4 ⟨rfl, hb1⟩
    have HX4 := Lib.hid (block_below HX3.out hb1 (block_lt HX3.out)); have Hw4 := Lib.hid (Hw3.out.trans (hb1.mono Hw3.out.size)); have HA4 := Lib.hid (HA3.out.up hb1); have HL4 := Lib.hid (HL3.out.up hb1 (Nat.le_refl _))
    clear hb1 r0 r1 r2 r3 r4 r5 r6 r7 r8 r9 r10 r11 rf
    go_wp2_with fail
    refine (pdec_any A' n' c' l w4 HL4.out (by omega) Hlt.out).mono ?_
    rintro e w40 ⟨A40, n40, c40, rfl, ho, hb1⟩
    have HL40 := Lib.hid (HL4.out.up hb1 (Nat.le_refl _)); have Hw40 := Lib.hid (Hw4.out.trans (hb1.mono Hw4.out.size))
    have Hq16 := Lib.hid (decPu_held l)
    have Hed := Lib.hid (enc_dec (b := l) Hlt.out)
    generalize decPu l = q at *
    have HP40 := Lib.hid (pat_own ho (by have := (Rd.of_own ho).hlen; have := Hq16.out; omega))
    clear ho hb1
    go_upto_region 10 with fail
    have HY41 := Lib.hid (heap_alloc_new w40 (.cells #[.int .u8 (q.2.nm.x0 : Int), .int .u8 (q.2.nm.x1 : Int), .int .u8 (q.2.nm.x2 : Int), .int .u8 (q.2.nm.x3 : Int), .int .u8 (q.2.nm.x4 : Int), .int .u8 (q.2.nm.x5 : Int), .int .u8 (q.2.nm.x6 : Int), .int .u8 (q.2.nm.x7 : Int), .int .i64 q.2.no, .int .i64 q.2.h0, .int .i64 q.2.h1, .slice A40 n40 c40] 32))
    have hb1 := below_one w40 (.cells #[.int .u8 (q.2.nm.x0 : Int), .int .u8 (q.2.nm.x1 : Int), .int .u8 (q.2.nm.x2 : Int), .int .u8 (q.2.nm.x3 : Int), .int .u8 (q.2.nm.x4 : Int), .int .u8 (q.2.nm.x5 : Int), .int .u8 (q.2.nm.x6 : Int), .int .u8 (q.2.nm.x7 : Int), .int .i64 q.2.no, .int .i64 q.2.h0, .int .i64 q.2.h1, .slice A40 n40 c40] 32)
    have HL41 := Lib.hid (HL40.out.up hb1 (Nat.le_refl _)); have Hw41 := Lib.hid (Hw40.out.trans (hb1.mono Hw40.out.size)); have HP41 := Lib.hid (HP40.out.up hb1)
    clear hb1
    generalize w40.alloc (.cells #[.int .u8 (q.2.nm.x0 : Int), .int .u8 (q.2.nm.x1 : Int), .int .u8 (q.2.nm.x2 : Int), .int .u8 (q.2.nm.x3 : Int), .int .u8 (q.2.nm.x4 : Int), .int .u8 (q.2.nm.x5 : Int), .int .u8 (q.2.nm.x6 : Int), .int .u8 (q.2.nm.x7 : Int), .int .i64 q.2.no, .int .i64 q.2.h0, .int .i64 q.2.h1, .slice A40 n40 c40] 32) = w41 at *
    generalize w40.heap.size = gy2 at *
    by_cases hq0 : q.1 = 0
    ·
      obtain ⟨he1, he2⟩ := Hed.out hq0
      have d1 : (q.1 == 0) = true := by simp [hq0]
      have He1 := Lib.hid he1; have He2 := Lib.hid he2
      clear hq0 he1 he2
      have r := block_cell HY41.out
      have r0 := r 0; have r1 := r 1; have r2 := r 2; have r3 := r 3; have r4 := r 4; have r5 := r 5; have r6 := r 6; have r7 := r 7; have r8 := r 8; have r9 := r 9; have r10 := r 10; have r11 := r 11
      have rf := block_free HY41.out
      simp at r0 r1 r2 r3 r4 r5 r6 r7 r8 r9 r10 r11
      clear r
      go_wp2_with fail
      refine (encode_good q.2 A40 n40 c40 w41 HP41.out He2.out).mono ?_
      rw [He1.out]
      rintro e w42 ⟨A42, n42, c42, rfl, ho, hn42, hb1⟩
      have HL42 := Lib.hid (HL41.out.up hb1 (Nat.le_refl _)); have Hw42 := Lib.hid (Hw41.out.trans (hb1.mono Hw41.out.size))
      have HE42 := Lib.hid (Rd.of_own ho)
      clear ho hn42 hb1 r0 r1 r2 r3 r4 r5 r6 r7 r8 r9 r10 r11 rf
      have hcv := conv_bytes HE42.out c42 9 Try.underlying9
      have hcv2 := conv_bytes HL42.out c' 9 Try.underlying9
      have hss : ((strS l).toList != (strS l).toList) = false := by simp
      have hss2 : ((strS l).toList == (strS l).toList) = true := by simp
      go_wp2_with (go_at_call 12; refine (told_any _).mono ?_; rintro e w43 ⟨rfl, hb2⟩; have Hb43 := Lib.hid (Hw42.out.trans (hb2.mono Hw42.out.size)); clear hb2)
      go_ret
      exact ⟨rfl, Hb43.out⟩
    ·
      have d1 : (q.1 == 0) = false := by simp [hq0]
      clear hq0
      go_wp2_with (go_at_call 12; refine (told_any _).mono ?_; rintro e w43 ⟨rfl, hb2⟩; have Hb43 := Lib.hid (Hw41.out.trans (hb2.mono Hw41.out.size)); clear hb2)
      go_ret
      exact ⟨rfl, Hb43.out⟩
end Go.Proofs.Ytjiecnoplnaahaa
