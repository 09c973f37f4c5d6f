/- The walk of PurseTells. Conditions: bounds. -/
import Derived.Test.YtjiecnoplnaahaaPuDe
import Derived.Test.YtjiecnoplnaahaaPuEe
import Derived.Test.YtjiecnoplnaahaaJoinD
import Derived.Test.YtjiecnoplnaahaaPuAC
import Derived.Test.YtjiecnoplnaahaaConv
import Derived.Test.YtjiecnoplnaahaaDigEq
namespace Go.Proofs.Ytjiecnoplnaahaa
open Go.RowKit Go.Lib



theorem decPu_held (l : List Nat) : (decPu l).2.held.length ≤ 16 := by
  have h1 : (puRS l).2.held.length ≤ 16 := Nat.le_trans (hRS_len (p5 l) (manyRS l)) (numRS_le (p4 l) 16)
  unfold decPu
  split
  · exact Nat.zero_le _
  · split
    · exact Nat.zero_le _
    · exact h1
theorem drew_below {w w' : World} (h : Below w.drew.heap.size w.drew w') : Below w.heap.size w w' := ⟨h.os, h.tape, h.output, h.size, h.block⟩
theorem pat_own {w : World} {base : Nat} {te : TypeId} {p : Pu} {A : Option Addr} {n c : Nat} (ho : w.ownsRow base te 11 (.slice A n c) n (flatH p.held)) (hn : n ≤ 1000000) : PuV.At p A n c w := ⟨Rd.of_own ho, own_cap ho, hn⟩
set_option maxRecDepth 100000 in
set_option maxHeartbeats 4000000 in
theorem purseTells_any (p : Pu) (A A' : Option Addr) (n c n' c' : Nat) (l : List Nat) (w : World) (hr : Rd w w.heap.size 11 A n (flatH p.held)) (hcap : n ≤ c) (hbo : p.bytesOk) (hr' : Rd w w.heap.size 1 A' n' (bv l)) (hcap' : n' ≤ c') (hlt : ∀ x ∈ l, x < 256) :
    Calls Try.prog 8 #[.agg #[.int .u8 (p.nm.x0 : Int), .int .u8 (p.nm.x1 : Int), .int .u8 (p.nm.x2 : Int), .int .u8 (p.nm.x3 : Int), .int .u8 (p.nm.x4 : Int), .int .u8 (p.nm.x5 : Int), .int .u8 (p.nm.x6 : Int), .int .u8 (p.nm.x7 : Int), .int .i64 p.no, .int .i64 p.h0, .int .i64 p.h1, .slice A n c], .slice A' n' c'] w fun e w' => e = .returned (.bool true) ∧ Below w.heap.size w w' := by
  have HX0 := Lib.hid (heap_alloc_new w (.cells #[.int .u8 (p.nm.x0 : Int), .int .u8 (p.nm.x1 : Int), .int .u8 (p.nm.x2 : Int), .int .u8 (p.nm.x3 : Int), .int .u8 (p.nm.x4 : Int), .int .u8 (p.nm.x5 : Int), .int .u8 (p.nm.x6 : Int), .int .u8 (p.nm.x7 : Int), .int .i64 p.no, .int .i64 p.h0, .int .i64 p.h1, .slice A n c] 26))
  have Hw0 := Lib.hid (below_one w (.cells #[.int .u8 (p.nm.x0 : Int), .int .u8 (p.nm.x1 : Int), .int .u8 (p.nm.x2 : Int), .int .u8 (p.nm.x3 : Int), .int .u8 (p.nm.x4 : Int), .int .u8 (p.nm.x5 : Int), .int .u8 (p.nm.x6 : Int), .int .u8 (p.nm.x7 : Int), .int .i64 p.no, .int .i64 p.h0, .int .i64 p.h1, .slice A n c] 26))
  have Hr := Lib.hid hr; have Hr' := Lib.hid hr'; have Hlt := Lib.hid hlt; have Hbo := Lib.hid hbo
  clear hr hr' hlt hbo
  by_cases h40 : 40 < n
  · have b1 : decide (40 < n) = true := decide_eq_true h40
    clear h40
    go_enter Try.func8, Try.ntmps8
    go_wp2_with (first | (go_at_call 11; refine (great_any p A n c _).mono ?_; rintro e w1 ⟨rfl, hb1⟩; have Hb1 := Lib.hid (Hw0.out.trans (hb1.mono (by simp))); clear hb1) | (go_at_call 12; refine (told_any _).mono ?_; rintro e w2 ⟨rfl, hb2⟩; have Hb2 := Lib.hid (Hb1.out.trans (hb2.mono Hb1.out.size)); clear hb2))
    go_ret
    exact ⟨rfl, Hb2.out⟩
  have b1 : decide (40 < n) = false := decide_eq_false h40
  by_cases h1000 : 1000 < n'
  · have b2 : decide (1000 < n') = true := decide_eq_true h1000
    go_enter Try.func8, Try.ntmps8
    go_wp2_with (first | (go_at_call 11; refine (great_any p A n c _).mono ?_; rintro e w1 ⟨rfl, hb1⟩; have Hb1 := Lib.hid (Hw0.out.trans (hb1.mono (by simp))); clear hb1) | (go_at_call 12; refine (told_any _).mono ?_; rintro e w2 ⟨rfl, hb2⟩; have Hb2 := Lib.hid (Hb1.out.trans (hb2.mono Hb1.out.size)); clear hb2))
    go_ret
    exact ⟨rfl, Hb2.out⟩
  have b2 : decide (1000 < n') = false := decide_eq_false h1000
  have HA0 := Lib.hid ((show PuV.At p A n c w from ⟨Hr.out, hcap, by omega⟩).up Hw0.out)
  have HL0 := Lib.hid (Hr'.out.up Hw0.out (Nat.le_refl _))
  have hbase := Hw0.out.size
  have hni : (n' : Int) ≤ 1000 := by omega
  have hnd : ∀ w, (binOp .neq 22 (.agg #[.int .u8 (p.digest.x0 : Int), .int .u8 (p.digest.x1 : Int), .int .u8 (p.digest.x2 : Int), .int .u8 (p.digest.x3 : Int), .int .u8 (p.digest.x4 : Int), .int .u8 (p.digest.x5 : Int), .int .u8 (p.digest.x6 : Int), .int .u8 (p.digest.x7 : Int)]) (.agg #[.int .u8 (p.digest.x0 : Int), .int .u8 (p.digest.x1 : Int), .int .u8 (p.digest.x2 : Int), .int .u8 (p.digest.x3 : Int), .int .u8 (p.digest.x4 : Int), .int .u8 (p.digest.x5 : Int), .int .u8 (p.digest.x6 : Int), .int .u8 (p.digest.x7 : Int)])).run Try.prog w = .ok (.bool false) w := fun w => by rw [neq_digR]; simp [eqI]
  have hpp : p.held.length = n := Hr.out.hlen
  have Hpl := Lib.hid hpp
  clear hpp hbase
  by_cases hp : p.check = 0
  · have Hp := Lib.hid hp
    have c1 : (p.check != 0) = false := by simp [hp]
    have c2 : (p.check == 0) = true := by simp [hp]
    have c0 : ((0 : Int) != p.check) = false := by simp [hp]
    clear hp
    go_enter Try.func8, Try.ntmps8
    go_wp2_with fail
    generalize w.alloc (.cells #[.int .u8 (p.nm.x0 : Int), .int .u8 (p.nm.x1 : Int), .int .u8 (p.nm.x2 : Int), .int .u8 (p.nm.x3 : Int), .int .u8 (p.nm.x4 : Int), .int .u8 (p.nm.x5 : Int), .int .u8 (p.nm.x6 : Int), .int .u8 (p.nm.x7 : Int), .int .i64 p.no, .int .i64 p.h0, .int .i64 p.h1, .slice A n c] 26) = w0 at *
    refine (great_any p A n c w0).mono ?_
    rintro e w1 ⟨rfl, hb1⟩
    have HX1 := Lib.hid (block_below HX0.out hb1 (block_lt HX0.out)); have Hw1 := Lib.hid (Hw0.out.trans (hb1.mono Hw0.out.size)); have HA1 := Lib.hid (HA0.out.up hb1); have HL1 := Lib.hid (HL0.out.up hb1 (Nat.le_refl _))
    clear hb1
    have r := block_cell HX1.out
    have r0 := r 0; have r1 := r 1; have r2 := r 2; have r3 := r 3; have r4 := r 4; have r5 := r 5; have r6 := r 6; have r7 := r 7; have r8 := r 8; have r9 := r 9; have r10 := r 10; have r11 := r 11
    have rf := block_free HX1.out
    simp at r0 r1 r2 r3 r4 r5 r6 r7 r8 r9 r10 r11
    clear r
    go_wp2_with fail
    refine (own_any p A n c w1 HA1.out).mono ?_
    rintro e w2 ⟨A2, n2, c2', rfl, ho, hb1⟩
    have HX2 := Lib.hid (block_below HX1.out hb1 (block_lt HX1.out)); have Hw2 := Lib.hid (Hw1.out.trans (hb1.mono Hw1.out.size)); have HA2 := Lib.hid (HA1.out.up hb1); have HL2 := Lib.hid (HL1.out.up hb1 (Nat.le_refl _))
    have HP2 := Lib.hid (pat_own ho (by have := (Rd.of_own ho).hlen; have := Hpl.out; omega))
    clear ho hb1 r0 r1 r2 r3 r4 r5 r6 r7 r8 r9 r10 r11 rf
    go_wp2_with fail
    refine (encode_good p A2 n2 c2' w2 HP2.out Hp.out).mono ?_
    rintro e w3 ⟨A3, n3, c3, rfl, ho, hn3, hb1⟩
    have HX3 := Lib.hid (block_below HX2.out hb1 (block_lt HX2.out)); have Hw3 := Lib.hid (Hw2.out.trans (hb1.mono Hw2.out.size)); have HA3 := Lib.hid (HA2.out.up hb1); have HL3 := Lib.hid (HL2.out.up hb1 (Nat.le_refl _))
    have HE3 := Lib.hid (Rd.of_own ho); have Hn3 := Lib.hid hn3
    clear ho hb1 HP2 hn3
    have r := block_cell HX3.out
    have r0 := r 0; have r1 := r 1; have r2 := r 2; have r3 := r 3; have r4 := r 4; have r5 := r 5; have r6 := r 6; have r7 := r 7; have r8 := r 8; have r9 := r 9; have r10 := r 10; have r11 := r 11
    have rf := block_free HX3.out
    simp at r0 r1 r2 r3 r4 r5 r6 r7 r8 r9 r10 r11
    clear r
    go_wp2_with fail
    refine (checkr_any p A n c w3 HA3.out).mono ?_
    rintro e w4 ⟨rfl, hb1⟩
    have HX4 := Lib.hid (block_below HX3.out hb1 (block_lt HX3.out)); have Hw4 := Lib.hid (Hw3.out.trans (hb1.mono Hw3.out.size)); have HA4 := Lib.hid (HA3.out.up hb1); have HL4 := Lib.hid (HL3.out.up hb1 (Nat.le_refl _))
    have HE4 := Lib.hid (HE3.out.up hb1 (Nat.le_refl _))
    clear hb1 r0 r1 r2 r3 r4 r5 r6 r7 r8 r9 r10 r11 rf
    go_wp2
    refine wp_region_held_drew (S := fun w' => (w'.cell? ⟨w.heap.size, 0, none⟩ = some (.int .u8 (p.nm.x0 : Int)) ∧ w'.cell? ⟨w.heap.size, 1, none⟩ = some (.int .u8 (p.nm.x1 : Int)) ∧ w'.cell? ⟨w.heap.size, 2, none⟩ = some (.int .u8 (p.nm.x2 : Int)) ∧ w'.cell? ⟨w.heap.size, 3, none⟩ = some (.int .u8 (p.nm.x3 : Int)) ∧ w'.cell? ⟨w.heap.size, 4, none⟩ = some (.int .u8 (p.nm.x4 : Int)) ∧ w'.cell? ⟨w.heap.size, 5, none⟩ = some (.int .u8 (p.nm.x5 : Int)) ∧ w'.cell? ⟨w.heap.size, 6, none⟩ = some (.int .u8 (p.nm.x6 : Int)) ∧ w'.cell? ⟨w.heap.size, 7, none⟩ = some (.int .u8 (p.nm.x7 : Int)) ∧ w'.cell? ⟨w.heap.size, 8, none⟩ = some (.int .i64 p.no) ∧ w'.cell? ⟨w.heap.size, 9, none⟩ = some (.int .i64 p.h0) ∧ w'.cell? ⟨w.heap.size, 10, none⟩ = some (.int .i64 p.h1) ∧ w'.cell? ⟨w.heap.size, 11, none⟩ = some (.slice A n c)) ∧ Rd w' w4.heap.size 1 A3 n3 (bv (encPu p))) (by kernel_rfl) ⟨psg_of (w := w4.drew) HX4.out, HE4.out.drew⟩ (fun hHeld => ?_)
    refine takeH 0 (some 28) (v := ?_) rfl (by kernel_rfl) (by kernel_rfl) (by kernel_rfl) (by kernel_rfl) (fun _ _ _ h => h) (Or.inl ⟨by kernel_rfl, ?hy⟩) (by assumption) ?_
    case hy =>
      intro w' hSw
      try dsimp only at hSw
      first
        | (go_simp; done)
        | (go_simp; with_reducible rfl)
    simp only [Act.put, List.setIfInBounds_toArray, List.set_cons_zero, List.set_cons_succ]
    refine takeH 1 (some 29) (v := ?_) rfl (by kernel_rfl) (by kernel_rfl) (by kernel_rfl) (by kernel_rfl) (fun _ _ _ h => h) (Or.inl ⟨by kernel_rfl, ?hy⟩) (by assumption) ?_
    case hy =>
      intro w' hSw
      try dsimp only at hSw
      first
        | (go_simp; done)
        | (go_simp; with_reducible rfl)
    simp only [Act.put, List.setIfInBounds_toArray, List.set_cons_zero, List.set_cons_succ]
    refine takeH 2 (some 30) (v := ?_) rfl (by kernel_rfl) (by kernel_rfl) (by kernel_rfl) (by kernel_rfl) (fun _ _ _ h => h) (Or.inl ⟨by kernel_rfl, ?hy⟩) (by assumption) ?_
    case hy =>
      intro w' hSw
      try dsimp only at hSw
      first
        | (go_simp; done)
        | (go_simp; with_reducible rfl)
    simp only [Act.put, List.setIfInBounds_toArray, List.set_cons_zero, List.set_cons_succ]
    refine takeH 3 (some 31) (v := ?_) rfl (by kernel_rfl) (by kernel_rfl) (by kernel_rfl) (by kernel_rfl) (fun _ _ _ h => h) (Or.inl ⟨by kernel_rfl, ?hy⟩) (by assumption) ?_
    case hy =>
      intro w' hSw
      try dsimp only at hSw
      first
        | (go_simp; done)
        | (go_simp; with_reducible rfl)
    simp only [Act.put, List.setIfInBounds_toArray, List.set_cons_zero, List.set_cons_succ]
    refine takeH 4 (some 32) (v := ?_) rfl (by kernel_rfl) (by kernel_rfl) (by kernel_rfl) (by kernel_rfl) (fun _ _ _ h => h) (Or.inl ⟨by kernel_rfl, ?hy⟩) (by assumption) ?_
    case hy =>
      intro w' hSw
      try dsimp only at hSw
      first
        | (go_simp; done)
        | (go_simp; with_reducible rfl)
    simp only [Act.put, List.setIfInBounds_toArray, List.set_cons_zero, List.set_cons_succ]
    refine takeH 5 (some 33) (v := ?_) rfl (by kernel_rfl) (by kernel_rfl) (by kernel_rfl) (by kernel_rfl) (fun _ _ _ h => h) (Or.inl ⟨by kernel_rfl, ?hy⟩) (by assumption) ?_
    case hy =>
      intro w' hSw
      try dsimp only at hSw
      first
        | (go_simp; done)
        | (go_simp; with_reducible rfl)
    simp only [Act.put, List.setIfInBounds_toArray, List.set_cons_zero, List.set_cons_succ]
    refine takeH 6 (some 34) (v := ?_) rfl (by kernel_rfl) (by kernel_rfl) (by kernel_rfl) (by kernel_rfl) (fun _ _ _ h => h) (Or.inl ⟨by kernel_rfl, ?hy⟩) (by assumption) ?_
    case hy =>
      intro w' hSw
      try dsimp only at hSw
      first
        | (go_simp; done)
        | (go_simp; with_reducible rfl)
    simp only [Act.put, List.setIfInBounds_toArray, List.set_cons_zero, List.set_cons_succ]
    refine takeH 7 (some 35) (v := undef) rfl (by kernel_rfl) (by kernel_rfl) (by kernel_rfl) (by kernel_rfl) (fun _ _ _ h => h) (Or.inr ⟨by kernel_rfl, rfl⟩) (by assumption) ?_
    simp only [Act.put, List.setIfInBounds_toArray, List.set_cons_zero, List.set_cons_succ]
    refine takeH 8 (some 36) (v := undef) rfl (by kernel_rfl) (by kernel_rfl) (by kernel_rfl) (by kernel_rfl) (fun _ _ _ h => h) (Or.inr ⟨by kernel_rfl, rfl⟩) (by assumption) ?_
    simp only [Act.put, List.setIfInBounds_toArray, List.set_cons_zero, List.set_cons_succ]
    refine takeH 9 (some 37) (v := undef) rfl (by kernel_rfl) (by kernel_rfl) (by kernel_rfl) (by kernel_rfl) (fun _ _ _ h => h) (Or.inr ⟨by kernel_rfl, rfl⟩) (by assumption) ?_
    simp only [Act.put, List.setIfInBounds_toArray, List.set_cons_zero, List.set_cons_succ]
    refine takeH 10 (some 38) (v := ?_) rfl (by kernel_rfl) (by kernel_rfl) (by kernel_rfl) (by kernel_rfl) (fun _ _ _ h => h) (Or.inl ⟨by kernel_rfl, ?hy⟩) (by assumption) ?_
    case hy =>
      intro w' hSw
      try dsimp only at hSw
      first
        | (go_simp; done)
        | (go_simp; with_reducible rfl)
    simp only [Act.put, List.setIfInBounds_toArray, List.set_cons_zero, List.set_cons_succ]
    refine takeH 11 (some 39) (v := ?_) rfl (by kernel_rfl) (by kernel_rfl) (by kernel_rfl) (by kernel_rfl) (fun _ _ _ h => h) (Or.inl ⟨by kernel_rfl, ?hy⟩) (by assumption) ?_
    case hy =>
      intro w' hSw
      try dsimp only at hSw
      first
        | (go_simp; done)
        | (go_simp; with_reducible rfl)
    simp only [Act.put, List.setIfInBounds_toArray, List.set_cons_zero, List.set_cons_succ]
    refine takeH 12 (some 40) (v := ?_) rfl (by kernel_rfl) (by kernel_rfl) (by kernel_rfl) (by kernel_rfl) (fun _ _ _ h => h) (Or.inl ⟨by kernel_rfl, ?hy⟩) (by assumption) ?_
    case hy =>
      intro w' hSw
      try dsimp only at hSw
      first
        | (go_simp; done)
        | (go_simp; with_reducible rfl)
    simp only [Act.put, List.setIfInBounds_toArray, List.set_cons_zero, List.set_cons_succ]
    refine takeH 13 (some 41) (v := ?_) rfl (by kernel_rfl) (by kernel_rfl) (by kernel_rfl) (by kernel_rfl) (fun _ _ _ h => h) (Or.inl ⟨by kernel_rfl, ?hy⟩) (by assumption) ?_
    case hy =>
      intro w' hSw
      try dsimp only at hSw
      first
        | (go_simp; done)
        | (go_simp; with_reducible rfl)
    simp only [Act.put, List.setIfInBounds_toArray, List.set_cons_zero, List.set_cons_succ]
    refine takeH 14 (some 42) (v := ?_) rfl (by kernel_rfl) (by kernel_rfl) (by kernel_rfl) (by kernel_rfl) (fun _ _ _ h => h) (Or.inl ⟨by kernel_rfl, ?hy⟩) (by assumption) ?_
    case hy =>
      intro w' hSw
      try dsimp only at hSw
      first
        | (go_simp; done)
        | (go_simp; with_reducible rfl)
    simp only [Act.put, List.setIfInBounds_toArray, List.set_cons_zero, List.set_cons_succ]
    refine takeH 15 (some 43) (v := ?_) rfl (by kernel_rfl) (by kernel_rfl) (by kernel_rfl) (by kernel_rfl) (fun _ _ _ h => h) (Or.inl ⟨by kernel_rfl, ?hy⟩) (by assumption) ?_
    case hy =>
      intro w' hSw
      try dsimp only at hSw
      first
        | (go_simp; done)
        | (go_simp; with_reducible rfl)
    simp only [Act.put, List.setIfInBounds_toArray, List.set_cons_zero, List.set_cons_succ]
    refine takeH 16 (some 44) (v := ?_) rfl (by kernel_rfl) (by kernel_rfl) (by kernel_rfl) (by kernel_rfl) (fun _ _ _ h => h) (Or.inl ⟨by kernel_rfl, ?hy⟩) (by assumption) ?_
    case hy =>
      intro w' hSw
      try dsimp only at hSw
      first
        | (go_simp; done)
        | (go_simp; with_reducible rfl)
    simp only [Act.put, List.setIfInBounds_toArray, List.set_cons_zero, List.set_cons_succ]
    refine takeH 17 (some 45) (v := .string (strS (encPu p))) rfl (by kernel_rfl) (by kernel_rfl) (by kernel_rfl) (by kernel_rfl) (fun _ _ _ h => h) (Or.inl ⟨by kernel_rfl, ?hy⟩) (by assumption) ?_
    case hy =>
      intro w' hSw
      have hcv := conv_bytes hSw.2 c3 9 Try.underlying9
      clear hSw
      go_simp
    simp only [Act.put, List.setIfInBounds_toArray, List.set_cons_zero, List.set_cons_succ]
    refine takeH 18 (some 46) (v := ?_) rfl (by kernel_rfl) (by kernel_rfl) (by kernel_rfl) (by kernel_rfl) (fun _ _ _ h => h) (Or.inl ⟨by kernel_rfl, ?hy⟩) (by assumption) ?_
    case hy =>
      intro w' hSw
      try dsimp only at hSw
      first
        | (go_simp; done)
        | (go_simp; with_reducible rfl)
    simp only [Act.put, List.setIfInBounds_toArray, List.set_cons_zero, List.set_cons_succ]
    refine wpAnyH_ready (rs := [19]) (by kernel_rfl) (by simp) ?_
    refine AllReadyH.cons rfl (fun K hK => ?_) AllReadyH.nil
    rw [if_pos (by kernel_rfl)]
    go_simp
    refine (pbytesr_any p A n c w4.drew (HA4.out.up (Below.refl _ _).drew) Hp.out).mono ?_
    rintro e w5 ⟨A5, n5, c5, rfl, ho, hn5, hb1d⟩
    have hb1 := drew_below hb1d
    have HX5 := Lib.hid (block_below HX4.out hb1 (block_lt HX4.out)); have Hw5 := Lib.hid (Hw4.out.trans (hb1.mono Hw4.out.size)); have HA5 := Lib.hid (HA4.out.up hb1); have HL5 := Lib.hid (HL4.out.up hb1 (Nat.le_refl _))
    have HE5 := Lib.hid (HE4.out.below hb1 (Nat.le_refl _)); have HB5 := Lib.hid (Rd.of_own ho)
    have Hs5 := Lib.hid hb1.size
    clear ho hn5 hb1 hb1d
    refine hK.out _ _ ⟨psg_of HX5.out, HE5.out⟩ (fun hHeld => ?_)
    clear hK K
    have hcv := conv_bytes HB5.out c5 9 Try.underlying9
    have hss : ((strS (encPu p)).toList != (strS (encPu p)).toList) = false := by simp
    have hss2 : ((strS (encPu p)).toList == (strS (encPu p)).toList) = true := by simp
    refine wpAnyH_ready (rs := [20]) (by kernel_rfl) (by simp) ?_
    refine AllReadyH.cons rfl (fun K hK => ?_) AllReadyH.nil
    rw [if_pos (by kernel_rfl)]
    go_simp
    clear hcv
    refine hK.out _ _ ⟨psg_of HX5.out, HE5.out⟩ (fun hHeld => ?_)
    clear hK K
    refine takeH 21 (some 49) (v := ?_) rfl (by kernel_rfl) (by kernel_rfl) (by kernel_rfl) (by kernel_rfl) (fun _ _ _ h => h) (Or.inl ⟨by kernel_rfl, ?hy⟩) (by assumption) ?_
    case hy =>
      intro w' hSw
      try dsimp only at hSw
      first
        | (go_simp; done)
        | (go_simp; with_reducible rfl)
    simp only [Act.put, List.setIfInBounds_toArray, List.set_cons_zero, List.set_cons_succ]
    refine takeH 22 (some 50) (v := ?_) rfl (by kernel_rfl) (by kernel_rfl) (by kernel_rfl) (by kernel_rfl) (fun _ _ _ h => h) (Or.inl ⟨by kernel_rfl, ?hy⟩) (by assumption) ?_
    case hy =>
      intro w' hSw
      try dsimp only at hSw
      first
        | (go_simp; done)
        | (go_simp; with_reducible rfl)
    simp only [Act.put, List.setIfInBounds_toArray, List.set_cons_zero, List.set_cons_succ]
    refine takeH 23 (some 51) (v := ?_) rfl (by kernel_rfl) (by kernel_rfl) (by kernel_rfl) (by kernel_rfl) (fun _ _ _ h => h) (Or.inl ⟨by kernel_rfl, ?hy⟩) (by assumption) ?_
    case hy =>
      intro w' hSw
      try dsimp only at hSw
      first
        | (go_simp; done)
        | (go_simp; with_reducible rfl)
    simp only [Act.put, List.setIfInBounds_toArray, List.set_cons_zero, List.set_cons_succ]
    refine takeH 24 (some 52) (v := ?_) rfl (by kernel_rfl) (by kernel_rfl) (by kernel_rfl) (by kernel_rfl) (fun _ _ _ h => h) (Or.inl ⟨by kernel_rfl, ?hy⟩) (by assumption) ?_
    case hy =>
      intro w' hSw
      try dsimp only at hSw
      first
        | (go_simp; done)
        | (go_simp; with_reducible rfl)
    simp only [Act.put, List.setIfInBounds_toArray, List.set_cons_zero, List.set_cons_succ]
    refine takeH 25 (some 53) (v := ?_) rfl (by kernel_rfl) (by kernel_rfl) (by kernel_rfl) (by kernel_rfl) (fun _ _ _ h => h) (Or.inl ⟨by kernel_rfl, ?hy⟩) (by assumption) ?_
    case hy =>
      intro w' hSw
      try dsimp only at hSw
      first
        | (go_simp; done)
        | (go_simp; with_reducible rfl)
    simp only [Act.put, List.setIfInBounds_toArray, List.set_cons_zero, List.set_cons_succ]
    refine takeH 28 (some 56) (v := ?_) rfl (by kernel_rfl) (by kernel_rfl) (by kernel_rfl) (by kernel_rfl) (fun _ _ _ h => h) (Or.inl ⟨by kernel_rfl, ?hy⟩) (by assumption) ?_
    case hy =>
      intro w' hSw
      try dsimp only at hSw
      first
        | (go_simp; done)
        | (go_simp; with_reducible rfl)
    simp only [Act.put, List.setIfInBounds_toArray, List.set_cons_zero, List.set_cons_succ]
    refine wpAnyH_ready (rs := [26]) (by kernel_rfl) (by simp) ?_
    refine AllReadyH.cons rfl (fun K hK => ?_) AllReadyH.nil
    rw [if_pos (by kernel_rfl)]
    go_simp
    refine (own_any p A n c w5 HA5.out).mono ?_
    rintro e w6 ⟨A6, n6, c6, rfl, ho, hb1⟩
    have HX6 := Lib.hid (block_below HX5.out hb1 (block_lt HX5.out)); have Hw6 := Lib.hid (Hw5.out.trans (hb1.mono Hw5.out.size)); have HA6 := Lib.hid (HA5.out.up hb1); have HL6 := Lib.hid (HL5.out.up hb1 (Nat.le_refl _))
    have HE6 := Lib.hid (HE5.out.below hb1 Hs5.out)
    have Hs6 := Lib.hid hb1.size
    have HP6 := Lib.hid (pat_own ho (by have := (Rd.of_own ho).hlen; have := Hpl.out; omega))
    clear ho hb1
    refine hK.out _ _ ⟨psg_of HX6.out, HE6.out⟩ (fun hHeld => ?_)
    clear hK K
    refine wpAnyH_ready (rs := [27]) (by kernel_rfl) (by simp) ?_
    refine AllReadyH.cons rfl (fun K hK => ?_) AllReadyH.nil
    rw [if_pos (by kernel_rfl)]
    go_simp
    refine (digest_any p A6 n6 c6 w6 HP6.out Hbo.out).mono ?_
    rintro e w7 ⟨rfl, hb1⟩
    have HX7 := Lib.hid (block_below HX6.out hb1 (block_lt HX6.out)); have Hw7 := Lib.hid (Hw6.out.trans (hb1.mono Hw6.out.size)); have HA7 := Lib.hid (HA6.out.up hb1); have HL7 := Lib.hid (HL6.out.up hb1 (Nat.le_refl _))
    have HE7 := Lib.hid (HE6.out.below hb1 (Nat.le_trans Hs5.out Hs6.out))
    have Hs7 := Lib.hid hb1.size
    clear hb1
    refine hK.out _ _ ⟨psg_of HX7.out, HE7.out⟩ (fun hHeld => ?_)
    clear hK K
    refine wpAnyH_ready (rs := [29]) (by kernel_rfl) (by simp) ?_
    refine AllReadyH.cons rfl (fun K hK => ?_) AllReadyH.nil
    rw [if_pos (by kernel_rfl)]
    go_simp
    refine (digestr_any p A n c w7 HA7.out Hbo.out).mono ?_
    rintro e w8 ⟨rfl, hb1⟩
    have HX8 := Lib.hid (block_below HX7.out hb1 (block_lt HX7.out)); have Hw8 := Lib.hid (Hw7.out.trans (hb1.mono Hw7.out.size)); have HA8 := Lib.hid (HA7.out.up hb1); have HL8 := Lib.hid (HL7.out.up hb1 (Nat.le_refl _))
    have HE8 := Lib.hid (HE7.out.below hb1 (Nat.le_trans Hs5.out (Nat.le_trans Hs6.out Hs7.out)))
    clear hb1
    generalize p.digest = d at *
    refine hK.out _ _ ⟨psg_of HX8.out, HE8.out⟩ (fun hHeld => ?_)
    clear hK K
    refine takeH 30 (some 58) (v := ?_) rfl (by kernel_rfl) (by kernel_rfl) (by kernel_rfl) (by kernel_rfl) (fun _ _ _ h => h) (Or.inl ⟨by kernel_rfl, ?hy⟩) (by assumption) ?_
    case hy =>
      intro w' hSw
      try dsimp only at hSw
      first
        | (go_simp; done)
        | (go_simp; with_reducible rfl)
    simp only [Act.put, List.setIfInBounds_toArray, List.set_cons_zero, List.set_cons_succ]
    refine takeH 31 (some 59) (v := ?_) rfl (by kernel_rfl) (by kernel_rfl) (by kernel_rfl) (by kernel_rfl) (fun _ _ _ h => h) (Or.inl ⟨by kernel_rfl, ?hy⟩) (by assumption) ?_
    case hy =>
      intro w' hSw
      try dsimp only at hSw
      first
        | (go_simp; done)
        | (go_simp; with_reducible rfl)
    simp only [Act.put, List.setIfInBounds_toArray, List.set_cons_zero, List.set_cons_succ]
    refine wpAnyH_done (by kernel_rfl) ?_ _
    go_wp2_with fail
    refine (pdec_any A' n' c' l w8 HL8.out (by omega) Hlt.out).mono ?_
    rintro e w20 ⟨A20, n20, c20, rfl, ho, hb1⟩
    have HL20 := Lib.hid (HL8.out.up hb1 (Nat.le_refl _)); have Hw20 := Lib.hid (Hw8.out.trans (hb1.mono Hw8.out.size))
    have Hq16 := Lib.hid (decPu_held l)
    generalize hqq0 : decPu l = q at *
    have Hqq := Lib.hid hqq0
    clear hqq0
    have HP20 := Lib.hid (pat_own ho (by have := (Rd.of_own ho).hlen; have := Hq16.out; omega))
    clear ho hb1
    go_upto_region 8 with fail
    have HY21 := Lib.hid (heap_alloc_new w20 (.cells #[.int .u8 (q.2.nm.x0 : Int), .int .u8 (q.2.nm.x1 : Int), .int .u8 (q.2.nm.x2 : Int), .int .u8 (q.2.nm.x3 : Int), .int .u8 (q.2.nm.x4 : Int), .int .u8 (q.2.nm.x5 : Int), .int .u8 (q.2.nm.x6 : Int), .int .u8 (q.2.nm.x7 : Int), .int .i64 q.2.no, .int .i64 q.2.h0, .int .i64 q.2.h1, .slice A20 n20 c20] 32))
    have hb1 := below_one w20 (.cells #[.int .u8 (q.2.nm.x0 : Int), .int .u8 (q.2.nm.x1 : Int), .int .u8 (q.2.nm.x2 : Int), .int .u8 (q.2.nm.x3 : Int), .int .u8 (q.2.nm.x4 : Int), .int .u8 (q.2.nm.x5 : Int), .int .u8 (q.2.nm.x6 : Int), .int .u8 (q.2.nm.x7 : Int), .int .i64 q.2.no, .int .i64 q.2.h0, .int .i64 q.2.h1, .slice A20 n20 c20] 32)
    have HL21 := Lib.hid (HL20.out.up hb1 (Nat.le_refl _)); have Hw21 := Lib.hid (Hw20.out.trans (hb1.mono Hw20.out.size)); have HP21 := Lib.hid (HP20.out.up hb1)
    clear hb1
    generalize w20.alloc (.cells #[.int .u8 (q.2.nm.x0 : Int), .int .u8 (q.2.nm.x1 : Int), .int .u8 (q.2.nm.x2 : Int), .int .u8 (q.2.nm.x3 : Int), .int .u8 (q.2.nm.x4 : Int), .int .u8 (q.2.nm.x5 : Int), .int .u8 (q.2.nm.x6 : Int), .int .u8 (q.2.nm.x7 : Int), .int .i64 q.2.no, .int .i64 q.2.h0, .int .i64 q.2.h1, .slice A20 n20 c20] 32) = w21 at *
    generalize w20.heap.size = gy at *
    go_wp2_with fail
    refine (rdec_any A' n' c' l w21 HL21.out hcap' (by omega) Hlt.out).mono ?_
    rw [Hqq.out]
    rintro e w22 ⟨A22, n22, c22, rfl, ho, hb1⟩
    have HY22 := Lib.hid (block_below HY21.out hb1 (block_lt HY21.out)); have Hw22 := Lib.hid (Hw21.out.trans (hb1.mono Hw21.out.size)); have HP22 := Lib.hid (HP21.out.up hb1)
    have HQ22 := Lib.hid (pat_own ho (by have := (Rd.of_own ho).hlen; have := Hq16.out; omega))
    clear ho hb1
    go_upto_region 9 with fail
    have hb1 := below_one w22 (.cells #[.int .u8 (q.2.nm.x0 : Int), .int .u8 (q.2.nm.x1 : Int), .int .u8 (q.2.nm.x2 : Int), .int .u8 (q.2.nm.x3 : Int), .int .u8 (q.2.nm.x4 : Int), .int .u8 (q.2.nm.x5 : Int), .int .u8 (q.2.nm.x6 : Int), .int .u8 (q.2.nm.x7 : Int), .int .i64 q.2.no, .int .i64 q.2.h0, .int .i64 q.2.h1, .slice A22 n22 c22] 26)
    have HZ23 := Lib.hid (heap_alloc_new w22 (.cells #[.int .u8 (q.2.nm.x0 : Int), .int .u8 (q.2.nm.x1 : Int), .int .u8 (q.2.nm.x2 : Int), .int .u8 (q.2.nm.x3 : Int), .int .u8 (q.2.nm.x4 : Int), .int .u8 (q.2.nm.x5 : Int), .int .u8 (q.2.nm.x6 : Int), .int .u8 (q.2.nm.x7 : Int), .int .i64 q.2.no, .int .i64 q.2.h0, .int .i64 q.2.h1, .slice A22 n22 c22] 26))
    have HY23 := Lib.hid (block_below HY22.out hb1 (block_lt HY22.out)); have Hw23 := Lib.hid (Hw22.out.trans (hb1.mono Hw22.out.size)); have HP23 := Lib.hid (HP22.out.up hb1); have HQ23 := Lib.hid (HQ22.out.up hb1)
    clear hb1
    generalize w22.alloc (.cells #[.int .u8 (q.2.nm.x0 : Int), .int .u8 (q.2.nm.x1 : Int), .int .u8 (q.2.nm.x2 : Int), .int .u8 (q.2.nm.x3 : Int), .int .u8 (q.2.nm.x4 : Int), .int .u8 (q.2.nm.x5 : Int), .int .u8 (q.2.nm.x6 : Int), .int .u8 (q.2.nm.x7 : Int), .int .i64 q.2.no, .int .i64 q.2.h0, .int .i64 q.2.h1, .slice A22 n22 c22] 26) = w23 at *
    generalize w22.heap.size = gz at *
    have hqq : (q.1 == q.1) = true := by simp
    refine wp_region_held_drew (S := fun w' => (w'.cell? ⟨gy, 0, none⟩ = some (.int .u8 (q.2.nm.x0 : Int)) ∧ w'.cell? ⟨gy, 1, none⟩ = some (.int .u8 (q.2.nm.x1 : Int)) ∧ w'.cell? ⟨gy, 2, none⟩ = some (.int .u8 (q.2.nm.x2 : Int)) ∧ w'.cell? ⟨gy, 3, none⟩ = some (.int .u8 (q.2.nm.x3 : Int)) ∧ w'.cell? ⟨gy, 4, none⟩ = some (.int .u8 (q.2.nm.x4 : Int)) ∧ w'.cell? ⟨gy, 5, none⟩ = some (.int .u8 (q.2.nm.x5 : Int)) ∧ w'.cell? ⟨gy, 6, none⟩ = some (.int .u8 (q.2.nm.x6 : Int)) ∧ w'.cell? ⟨gy, 7, none⟩ = some (.int .u8 (q.2.nm.x7 : Int)) ∧ w'.cell? ⟨gy, 8, none⟩ = some (.int .i64 q.2.no) ∧ w'.cell? ⟨gy, 9, none⟩ = some (.int .i64 q.2.h0) ∧ w'.cell? ⟨gy, 10, none⟩ = some (.int .i64 q.2.h1) ∧ w'.cell? ⟨gy, 11, none⟩ = some (.slice A20 n20 c20)) ∧ (w'.cell? ⟨gz, 0, none⟩ = some (.int .u8 (q.2.nm.x0 : Int)) ∧ w'.cell? ⟨gz, 1, none⟩ = some (.int .u8 (q.2.nm.x1 : Int)) ∧ w'.cell? ⟨gz, 2, none⟩ = some (.int .u8 (q.2.nm.x2 : Int)) ∧ w'.cell? ⟨gz, 3, none⟩ = some (.int .u8 (q.2.nm.x3 : Int)) ∧ w'.cell? ⟨gz, 4, none⟩ = some (.int .u8 (q.2.nm.x4 : Int)) ∧ w'.cell? ⟨gz, 5, none⟩ = some (.int .u8 (q.2.nm.x5 : Int)) ∧ w'.cell? ⟨gz, 6, none⟩ = some (.int .u8 (q.2.nm.x6 : Int)) ∧ w'.cell? ⟨gz, 7, none⟩ = some (.int .u8 (q.2.nm.x7 : Int)) ∧ w'.cell? ⟨gz, 8, none⟩ = some (.int .i64 q.2.no) ∧ w'.cell? ⟨gz, 9, none⟩ = some (.int .i64 q.2.h0) ∧ w'.cell? ⟨gz, 10, none⟩ = some (.int .i64 q.2.h1) ∧ w'.cell? ⟨gz, 11, none⟩ = some (.slice A22 n22 c22))) (by kernel_rfl) ⟨psg_of (w := w23.drew) HY23.out, psg_of (w := w23.drew) HZ23.out⟩ (fun hHeld => ?_)
    refine takeH 0 (some 70) (v := ?_) rfl (by kernel_rfl) (by kernel_rfl) (by kernel_rfl) (by kernel_rfl) (fun _ _ _ h => h) (Or.inl ⟨by kernel_rfl, ?hy⟩) (by assumption) ?_
    case hy =>
      intro w' hSw
      try dsimp only at hSw
      first
        | (go_simp; done)
        | (go_simp; with_reducible rfl)
    simp only [Act.put, List.setIfInBounds_toArray, List.set_cons_zero, List.set_cons_succ]
    refine takeH 1 (some 71) (v := ?_) rfl (by kernel_rfl) (by kernel_rfl) (by kernel_rfl) (by kernel_rfl) (fun _ _ _ h => h) (Or.inl ⟨by kernel_rfl, ?hy⟩) (by assumption) ?_
    case hy =>
      intro w' hSw
      try dsimp only at hSw
      first
        | (go_simp; done)
        | (go_simp; with_reducible rfl)
    simp only [Act.put, List.setIfInBounds_toArray, List.set_cons_zero, List.set_cons_succ]
    refine takeH 2 (some 72) (v := ?_) rfl (by kernel_rfl) (by kernel_rfl) (by kernel_rfl) (by kernel_rfl) (fun _ _ _ h => h) (Or.inl ⟨by kernel_rfl, ?hy⟩) (by assumption) ?_
    case hy =>
      intro w' hSw
      try dsimp only at hSw
      first
        | (go_simp; done)
        | (go_simp; with_reducible rfl)
    simp only [Act.put, List.setIfInBounds_toArray, List.set_cons_zero, List.set_cons_succ]
    refine takeH 3 (some 73) (v := ?_) rfl (by kernel_rfl) (by kernel_rfl) (by kernel_rfl) (by kernel_rfl) (fun _ _ _ h => h) (Or.inl ⟨by kernel_rfl, ?hy⟩) (by assumption) ?_
    case hy =>
      intro w' hSw
      try dsimp only at hSw
      first
        | (go_simp; done)
        | (go_simp; with_reducible rfl)
    simp only [Act.put, List.setIfInBounds_toArray, List.set_cons_zero, List.set_cons_succ]
    refine takeH 4 (some 74) (v := ?_) rfl (by kernel_rfl) (by kernel_rfl) (by kernel_rfl) (by kernel_rfl) (fun _ _ _ h => h) (Or.inl ⟨by kernel_rfl, ?hy⟩) (by assumption) ?_
    case hy =>
      intro w' hSw
      try dsimp only at hSw
      first
        | (go_simp; done)
        | (go_simp; with_reducible rfl)
    simp only [Act.put, List.setIfInBounds_toArray, List.set_cons_zero, List.set_cons_succ]
    refine takeH 6 (some 76) (v := ?_) rfl (by kernel_rfl) (by kernel_rfl) (by kernel_rfl) (by kernel_rfl) (fun _ _ _ h => h) (Or.inl ⟨by kernel_rfl, ?hy⟩) (by assumption) ?_
    case hy =>
      intro w' hSw
      try dsimp only at hSw
      first
        | (go_simp; done)
        | (go_simp; with_reducible rfl)
    simp only [Act.put, List.setIfInBounds_toArray, List.set_cons_zero, List.set_cons_succ]
    refine wpAnyH_ready (rs := [5]) (by kernel_rfl) (by simp) ?_
    refine AllReadyH.cons rfl (fun K hK => ?_) AllReadyH.nil
    rw [if_pos (by kernel_rfl)]
    go_simp
    refine (backp_any q.2 A20 n20 c20 w23.drew (HP23.out.up (Below.refl _ _).drew)).mono ?_
    rintro e w24 ⟨A24, n24, c24, rfl, ho, hb1d⟩
    have hb1 := drew_below hb1d
    have HY24 := Lib.hid (block_below HY23.out hb1 (block_lt HY23.out)); have HZ24 := Lib.hid (block_below HZ23.out hb1 (block_lt HZ23.out)); have Hw24 := Lib.hid (Hw23.out.trans (hb1.mono Hw23.out.size)); have HQ24 := Lib.hid (HQ23.out.up hb1)
    have HR24 := Lib.hid (pat_own ho (by have := (Rd.of_own ho).hlen; have := Hq16.out; omega))
    clear ho hb1 hb1d
    refine hK.out _ _ ⟨psg_of HY24.out, psg_of HZ24.out⟩ (fun hHeld => ?_)
    clear hK K
    refine wpAnyH_ready (rs := [7]) (by kernel_rfl) (by simp) ?_
    refine AllReadyH.cons rfl (fun K hK => ?_) AllReadyH.nil
    rw [if_pos (by kernel_rfl)]
    go_simp
    refine (samer_any q.2 q.2 A24 A22 n24 c24 n22 c22 w24 HR24.out HQ24.out).mono ?_
    rintro e w25 ⟨rfl, hb1⟩
    have HY25 := Lib.hid (block_below HY24.out hb1 (block_lt HY24.out)); have HZ25 := Lib.hid (block_below HZ24.out hb1 (block_lt HZ24.out)); have Hw25 := Lib.hid (Hw24.out.trans (hb1.mono Hw24.out.size))
    clear hb1
    rw [show q.2.same q.2 = true from Pu.same_iff.2 rfl]
    refine hK.out _ _ ⟨psg_of HY25.out, psg_of HZ25.out⟩ (fun hHeld => ?_)
    clear hK K
    refine takeH 8 (some 78) (v := ?_) rfl (by kernel_rfl) (by kernel_rfl) (by kernel_rfl) (by kernel_rfl) (fun _ _ _ h => h) (Or.inl ⟨by kernel_rfl, ?hy⟩) (by assumption) ?_
    case hy =>
      intro w' hSw
      try dsimp only at hSw
      first
        | (go_simp; done)
        | (go_simp; with_reducible rfl)
    simp only [Act.put, List.setIfInBounds_toArray, List.set_cons_zero, List.set_cons_succ]
    refine takeH 9 (some 79) (v := ?_) rfl (by kernel_rfl) (by kernel_rfl) (by kernel_rfl) (by kernel_rfl) (fun _ _ _ h => h) (Or.inl ⟨by kernel_rfl, ?hy⟩) (by assumption) ?_
    case hy =>
      intro w' hSw
      try dsimp only at hSw
      first
        | (go_simp; done)
        | (go_simp; with_reducible rfl)
    simp only [Act.put, List.setIfInBounds_toArray, List.set_cons_zero, List.set_cons_succ]
    refine wpAnyH_ready (rs := [10]) (by kernel_rfl) (by simp) ?_
    refine AllReadyH.cons rfl (fun K hK => ?_) AllReadyH.nil
    rw [if_pos (by kernel_rfl)]
    go_simp
    refine (told_any w25).mono ?_
    rintro e w26 ⟨rfl, hb1⟩
    have HY26 := Lib.hid (block_below HY25.out hb1 (block_lt HY25.out)); have HZ26 := Lib.hid (block_below HZ25.out hb1 (block_lt HZ25.out)); have Hw26 := Lib.hid (Hw25.out.trans (hb1.mono Hw25.out.size))
    clear hb1
    refine hK.out _ _ ⟨psg_of HY26.out, psg_of HZ26.out⟩ (fun hHeld => ?_)
    clear hK K
    refine takeH 11 (some 81) (v := ?_) rfl (by kernel_rfl) (by kernel_rfl) (by kernel_rfl) (by kernel_rfl) (fun _ _ _ h => h) (Or.inl ⟨by kernel_rfl, ?hy⟩) (by assumption) ?_
    case hy =>
      intro w' hSw
      try dsimp only at hSw
      first
        | (go_simp; done)
        | (go_simp; with_reducible rfl)
    simp only [Act.put, List.setIfInBounds_toArray, List.set_cons_zero, List.set_cons_succ]
    refine wpAnyH_ready (rs := [12]) (by kernel_rfl) (by simp) ?_
    refine AllReadyH.cons rfl (fun K hK => ?_) AllReadyH.nil
    rw [if_pos (by kernel_rfl)]
    go_simp
    refine hK.out _ _ ⟨psg_of HY26.out, psg_of HZ26.out⟩ (fun hHeld => ?_)
    clear hK K
    refine wpAnyH_done (by kernel_rfl) ?_ _
    go_wp2
    go_ret
    exact ⟨rfl, Hw26.out⟩
  · have c1 : (p.check != 0) = true := by simp [hp]
    have c2 : (p.check == 0) = false := by simp [hp]
    have c0 : (p.check != p.check) = false := by simp
    have Hp := Lib.hid hp
    clear hp
    go_enter Try.func8, Try.ntmps8
    go_wp2_with fail
    generalize w.alloc (.cells #[.int .u8 (p.nm.x0 : Int), .int .u8 (p.nm.x1 : Int), .int .u8 (p.nm.x2 : Int), .int .u8 (p.nm.x3 : Int), .int .u8 (p.nm.x4 : Int), .int .u8 (p.nm.x5 : Int), .int .u8 (p.nm.x6 : Int), .int .u8 (p.nm.x7 : Int), .int .i64 p.no, .int .i64 p.h0, .int .i64 p.h1, .slice A n c] 26) = w0 at *
    refine (great_any p A n c w0).mono ?_
    rintro e w1 ⟨rfl, hb1⟩
    have HX1 := Lib.hid (block_below HX0.out hb1 (block_lt HX0.out)); have Hw1 := Lib.hid (Hw0.out.trans (hb1.mono Hw0.out.size)); have HA1 := Lib.hid (HA0.out.up hb1); have HL1 := Lib.hid (HL0.out.up hb1 (Nat.le_refl _))
    clear hb1
    have r := block_cell HX1.out
    have r0 := r 0; have r1 := r 1; have r2 := r 2; have r3 := r 3; have r4 := r 4; have r5 := r 5; have r6 := r 6; have r7 := r 7; have r8 := r 8; have r9 := r 9; have r10 := r 10; have r11 := r 11
    have rf := block_free HX1.out
    simp at r0 r1 r2 r3 r4 r5 r6 r7 r8 r9 r10 r11
    clear r
    go_wp2_with fail
    refine (own_any p A n c w1 HA1.out).mono ?_
    rintro e w2 ⟨A2, n2, c2', rfl, ho, hb1⟩
    have HX2 := Lib.hid (block_below HX1.out hb1 (block_lt HX1.out)); have Hw2 := Lib.hid (Hw1.out.trans (hb1.mono Hw1.out.size)); have HA2 := Lib.hid (HA1.out.up hb1); have HL2 := Lib.hid (HL1.out.up hb1 (Nat.le_refl _))
    have HP2 := Lib.hid (pat_own ho (by have := (Rd.of_own ho).hlen; have := Hpl.out; omega))
    clear ho hb1 r0 r1 r2 r3 r4 r5 r6 r7 r8 r9 r10 r11 rf
    go_wp2_with fail
    refine (encode_bad p A2 n2 c2' w2 HP2.out Hp.out).mono ?_
    rintro e w3 ⟨rfl, hb1⟩
    have HX3 := Lib.hid (block_below HX2.out hb1 (block_lt HX2.out)); have Hw3 := Lib.hid (Hw2.out.trans (hb1.mono Hw2.out.size)); have HA3 := Lib.hid (HA2.out.up hb1); have HL3 := Lib.hid (HL2.out.up hb1 (Nat.le_refl _))
    clear hb1 HP2
    have r := block_cell HX3.out
    have r0 := r 0; have r1 := r 1; have r2 := r 2; have r3 := r 3; have r4 := r 4; have r5 := r 5; have r6 := r 6; have r7 := r 7; have r8 := r 8; have r9 := r 9; have r10 := r 10; have r11 := r 11
    have rf := block_free HX3.out
    simp at r0 r1 r2 r3 r4 r5 r6 r7 r8 r9 r10 r11
    clear r
    go_wp2_with fail
    refine (checkr_any p A n c w3 HA3.out).mono ?_
    rintro e w4 ⟨rfl, hb1⟩
    have HX4 := Lib.hid (block_below HX3.out hb1 (block_lt HX3.out)); have Hw4 := Lib.hid (Hw3.out.trans (hb1.mono Hw3.out.size)); have HA4 := Lib.hid (HA3.out.up hb1); have HL4 := Lib.hid (HL3.out.up hb1 (Nat.le_refl _))
    clear hb1 r0 r1 r2 r3 r4 r5 r6 r7 r8 r9 r10 r11 rf
    go_wp2
    refine wp_region_held_drew (S := fun w' => w'.cell? ⟨w.heap.size, 0, none⟩ = some (.int .u8 (p.nm.x0 : Int)) ∧ w'.cell? ⟨w.heap.size, 1, none⟩ = some (.int .u8 (p.nm.x1 : Int)) ∧ w'.cell? ⟨w.heap.size, 2, none⟩ = some (.int .u8 (p.nm.x2 : Int)) ∧ w'.cell? ⟨w.heap.size, 3, none⟩ = some (.int .u8 (p.nm.x3 : Int)) ∧ w'.cell? ⟨w.heap.size, 4, none⟩ = some (.int .u8 (p.nm.x4 : Int)) ∧ w'.cell? ⟨w.heap.size, 5, none⟩ = some (.int .u8 (p.nm.x5 : Int)) ∧ w'.cell? ⟨w.heap.size, 6, none⟩ = some (.int .u8 (p.nm.x6 : Int)) ∧ w'.cell? ⟨w.heap.size, 7, none⟩ = some (.int .u8 (p.nm.x7 : Int)) ∧ w'.cell? ⟨w.heap.size, 8, none⟩ = some (.int .i64 p.no) ∧ w'.cell? ⟨w.heap.size, 9, none⟩ = some (.int .i64 p.h0) ∧ w'.cell? ⟨w.heap.size, 10, none⟩ = some (.int .i64 p.h1) ∧ w'.cell? ⟨w.heap.size, 11, none⟩ = some (.slice A n c)) (by kernel_rfl) (psg_of (w := w4.drew) HX4.out) (fun hHeld => ?_)
    refine takeH 0 (some 28) (v := ?_) rfl (by kernel_rfl) (by kernel_rfl) (by kernel_rfl) (by kernel_rfl) (fun _ _ _ h => h) (Or.inl ⟨by kernel_rfl, ?hy⟩) (by assumption) ?_
    case hy =>
      intro w' hSw
      try dsimp only at hSw
      first
        | (go_simp; done)
        | (go_simp; with_reducible rfl)
    simp only [Act.put, List.setIfInBounds_toArray, List.set_cons_zero, List.set_cons_succ]
    refine takeH 1 (some 29) (v := ?_) rfl (by kernel_rfl) (by kernel_rfl) (by kernel_rfl) (by kernel_rfl) (fun _ _ _ h => h) (Or.inl ⟨by kernel_rfl, ?hy⟩) (by assumption) ?_
    case hy =>
      intro w' hSw
      try dsimp only at hSw
      first
        | (go_simp; done)
        | (go_simp; with_reducible rfl)
    simp only [Act.put, List.setIfInBounds_toArray, List.set_cons_zero, List.set_cons_succ]
    refine takeH 2 (some 30) (v := ?_) rfl (by kernel_rfl) (by kernel_rfl) (by kernel_rfl) (by kernel_rfl) (fun _ _ _ h => h) (Or.inl ⟨by kernel_rfl, ?hy⟩) (by assumption) ?_
    case hy =>
      intro w' hSw
      try dsimp only at hSw
      first
        | (go_simp; done)
        | (go_simp; with_reducible rfl)
    simp only [Act.put, List.setIfInBounds_toArray, List.set_cons_zero, List.set_cons_succ]
    refine takeH 3 (some 31) (v := ?_) rfl (by kernel_rfl) (by kernel_rfl) (by kernel_rfl) (by kernel_rfl) (fun _ _ _ h => h) (Or.inl ⟨by kernel_rfl, ?hy⟩) (by assumption) ?_
    case hy =>
      intro w' hSw
      try dsimp only at hSw
      first
        | (go_simp; done)
        | (go_simp; with_reducible rfl)
    simp only [Act.put, List.setIfInBounds_toArray, List.set_cons_zero, List.set_cons_succ]
    refine takeH 4 (some 32) (v := ?_) rfl (by kernel_rfl) (by kernel_rfl) (by kernel_rfl) (by kernel_rfl) (fun _ _ _ h => h) (Or.inl ⟨by kernel_rfl, ?hy⟩) (by assumption) ?_
    case hy =>
      intro w' hSw
      try dsimp only at hSw
      first
        | (go_simp; done)
        | (go_simp; with_reducible rfl)
    simp only [Act.put, List.setIfInBounds_toArray, List.set_cons_zero, List.set_cons_succ]
    refine takeH 5 (some 33) (v := ?_) rfl (by kernel_rfl) (by kernel_rfl) (by kernel_rfl) (by kernel_rfl) (fun _ _ _ h => h) (Or.inl ⟨by kernel_rfl, ?hy⟩) (by assumption) ?_
    case hy =>
      intro w' hSw
      try dsimp only at hSw
      first
        | (go_simp; done)
        | (go_simp; with_reducible rfl)
    simp only [Act.put, List.setIfInBounds_toArray, List.set_cons_zero, List.set_cons_succ]
    refine takeH 6 (some 34) (v := ?_) rfl (by kernel_rfl) (by kernel_rfl) (by kernel_rfl) (by kernel_rfl) (fun _ _ _ h => h) (Or.inl ⟨by kernel_rfl, ?hy⟩) (by assumption) ?_
    case hy =>
      intro w' hSw
      try dsimp only at hSw
      first
        | (go_simp; done)
        | (go_simp; with_reducible rfl)
    simp only [Act.put, List.setIfInBounds_toArray, List.set_cons_zero, List.set_cons_succ]
    refine takeH 7 (some 35) (v := ?_) rfl (by kernel_rfl) (by kernel_rfl) (by kernel_rfl) (by kernel_rfl) (fun _ _ _ h => h) (Or.inl ⟨by kernel_rfl, ?hy⟩) (by assumption) ?_
    case hy =>
      intro w' hSw
      try dsimp only at hSw
      first
        | (go_simp; done)
        | (go_simp; with_reducible rfl)
    simp only [Act.put, List.setIfInBounds_toArray, List.set_cons_zero, List.set_cons_succ]
    refine wpAnyH_ready (rs := [8]) (by kernel_rfl) (by simp) ?_
    refine AllReadyH.cons rfl (fun K hK => ?_) AllReadyH.nil
    rw [if_pos (by kernel_rfl)]
    go_simp
    refine hK.out _ _ (psg_of (w := w4.drew) HX4.out) (fun hHeld => ?_)
    clear hK K
    refine takeH 9 (some 37) (v := ?_) rfl (by kernel_rfl) (by kernel_rfl) (by kernel_rfl) (by kernel_rfl) (fun _ _ _ h => h) (Or.inl ⟨by kernel_rfl, ?hy⟩) (by assumption) ?_
    case hy =>
      intro w' hSw
      try dsimp only at hSw
      first
        | (go_simp; done)
        | (go_simp; with_reducible rfl)
    simp only [Act.put, List.setIfInBounds_toArray, List.set_cons_zero, List.set_cons_succ]
    refine takeH 10 (some 38) (v := ?_) rfl (by kernel_rfl) (by kernel_rfl) (by kernel_rfl) (by kernel_rfl) (fun _ _ _ h => h) (Or.inl ⟨by kernel_rfl, ?hy⟩) (by assumption) ?_
    case hy =>
      intro w' hSw
      try dsimp only at hSw
      first
        | (go_simp; done)
        | (go_simp; with_reducible rfl)
    simp only [Act.put, List.setIfInBounds_toArray, List.set_cons_zero, List.set_cons_succ]
    refine takeH 11 (some 39) (v := ?_) rfl (by kernel_rfl) (by kernel_rfl) (by kernel_rfl) (by kernel_rfl) (fun _ _ _ h => h) (Or.inl ⟨by kernel_rfl, ?hy⟩) (by assumption) ?_
    case hy =>
      intro w' hSw
      try dsimp only at hSw
      first
        | (go_simp; done)
        | (go_simp; with_reducible rfl)
    simp only [Act.put, List.setIfInBounds_toArray, List.set_cons_zero, List.set_cons_succ]
    refine takeH 12 (some 40) (v := ?_) rfl (by kernel_rfl) (by kernel_rfl) (by kernel_rfl) (by kernel_rfl) (fun _ _ _ h => h) (Or.inl ⟨by kernel_rfl, ?hy⟩) (by assumption) ?_
    case hy =>
      intro w' hSw
      try dsimp only at hSw
      first
        | (go_simp; done)
        | (go_simp; with_reducible rfl)
    simp only [Act.put, List.setIfInBounds_toArray, List.set_cons_zero, List.set_cons_succ]
    refine takeH 13 (some 41) (v := ?_) rfl (by kernel_rfl) (by kernel_rfl) (by kernel_rfl) (by kernel_rfl) (fun _ _ _ h => h) (Or.inl ⟨by kernel_rfl, ?hy⟩) (by assumption) ?_
    case hy =>
      intro w' hSw
      try dsimp only at hSw
      first
        | (go_simp; done)
        | (go_simp; with_reducible rfl)
    simp only [Act.put, List.setIfInBounds_toArray, List.set_cons_zero, List.set_cons_succ]
    refine takeH 14 (some 42) (v := ?_) rfl (by kernel_rfl) (by kernel_rfl) (by kernel_rfl) (by kernel_rfl) (fun _ _ _ h => h) (Or.inl ⟨by kernel_rfl, ?hy⟩) (by assumption) ?_
    case hy =>
      intro w' hSw
      try dsimp only at hSw
      first
        | (go_simp; done)
        | (go_simp; with_reducible rfl)
    simp only [Act.put, List.setIfInBounds_toArray, List.set_cons_zero, List.set_cons_succ]
    refine takeH 15 (some 43) (v := ?_) rfl (by kernel_rfl) (by kernel_rfl) (by kernel_rfl) (by kernel_rfl) (fun _ _ _ h => h) (Or.inl ⟨by kernel_rfl, ?hy⟩) (by assumption) ?_
    case hy =>
      intro w' hSw
      try dsimp only at hSw
      first
        | (go_simp; done)
        | (go_simp; with_reducible rfl)
    simp only [Act.put, List.setIfInBounds_toArray, List.set_cons_zero, List.set_cons_succ]
    refine takeH 16 (some 44) (v := undef) rfl (by kernel_rfl) (by kernel_rfl) (by kernel_rfl) (by kernel_rfl) (fun _ _ _ h => h) (Or.inr ⟨by kernel_rfl, rfl⟩) (by assumption) ?_
    simp only [Act.put, List.setIfInBounds_toArray, List.set_cons_zero, List.set_cons_succ]
    refine takeH 17 (some 45) (v := undef) rfl (by kernel_rfl) (by kernel_rfl) (by kernel_rfl) (by kernel_rfl) (fun _ _ _ h => h) (Or.inr ⟨by kernel_rfl, rfl⟩) (by assumption) ?_
    simp only [Act.put, List.setIfInBounds_toArray, List.set_cons_zero, List.set_cons_succ]
    refine takeH 18 (some 46) (v := undef) rfl (by kernel_rfl) (by kernel_rfl) (by kernel_rfl) (by kernel_rfl) (fun _ _ _ h => h) (Or.inr ⟨by kernel_rfl, rfl⟩) (by assumption) ?_
    simp only [Act.put, List.setIfInBounds_toArray, List.set_cons_zero, List.set_cons_succ]
    refine takeH 19 (some 47) (v := undef) rfl (by kernel_rfl) (by kernel_rfl) (by kernel_rfl) (by kernel_rfl) (fun _ _ _ h => h) (Or.inr ⟨by kernel_rfl, rfl⟩) (by assumption) ?_
    simp only [Act.put, List.setIfInBounds_toArray, List.set_cons_zero, List.set_cons_succ]
    refine takeH 20 (some 48) (v := undef) rfl (by kernel_rfl) (by kernel_rfl) (by kernel_rfl) (by kernel_rfl) (fun _ _ _ h => h) (Or.inr ⟨by kernel_rfl, rfl⟩) (by assumption) ?_
    simp only [Act.put, List.setIfInBounds_toArray, List.set_cons_zero, List.set_cons_succ]
    refine takeH 21 (some 49) (v := undef) rfl (by kernel_rfl) (by kernel_rfl) (by kernel_rfl) (by kernel_rfl) (fun _ _ _ h => h) (Or.inr ⟨by kernel_rfl, rfl⟩) (by assumption) ?_
    simp only [Act.put, List.setIfInBounds_toArray, List.set_cons_zero, List.set_cons_succ]
    refine takeH 22 (some 50) (v := ?_) rfl (by kernel_rfl) (by kernel_rfl) (by kernel_rfl) (by kernel_rfl) (fun _ _ _ h => h) (Or.inl ⟨by kernel_rfl, ?hy⟩) (by assumption) ?_
    case hy =>
      intro w' hSw
      try dsimp only at hSw
      first
        | (go_simp; done)
        | (go_simp; with_reducible rfl)
    simp only [Act.put, List.setIfInBounds_toArray, List.set_cons_zero, List.set_cons_succ]
    refine takeH 23 (some 51) (v := ?_) rfl (by kernel_rfl) (by kernel_rfl) (by kernel_rfl) (by kernel_rfl) (fun _ _ _ h => h) (Or.inl ⟨by kernel_rfl, ?hy⟩) (by assumption) ?_
    case hy =>
      intro w' hSw
      try dsimp only at hSw
      first
        | (go_simp; done)
        | (go_simp; with_reducible rfl)
    simp only [Act.put, List.setIfInBounds_toArray, List.set_cons_zero, List.set_cons_succ]
    refine takeH 24 (some 52) (v := ?_) rfl (by kernel_rfl) (by kernel_rfl) (by kernel_rfl) (by kernel_rfl) (fun _ _ _ h => h) (Or.inl ⟨by kernel_rfl, ?hy⟩) (by assumption) ?_
    case hy =>
      intro w' hSw
      try dsimp only at hSw
      first
        | (go_simp; done)
        | (go_simp; with_reducible rfl)
    simp only [Act.put, List.setIfInBounds_toArray, List.set_cons_zero, List.set_cons_succ]
    refine takeH 25 (some 53) (v := ?_) rfl (by kernel_rfl) (by kernel_rfl) (by kernel_rfl) (by kernel_rfl) (fun _ _ _ h => h) (Or.inl ⟨by kernel_rfl, ?hy⟩) (by assumption) ?_
    case hy =>
      intro w' hSw
      try dsimp only at hSw
      first
        | (go_simp; done)
        | (go_simp; with_reducible rfl)
    simp only [Act.put, List.setIfInBounds_toArray, List.set_cons_zero, List.set_cons_succ]
    refine takeH 28 (some 56) (v := ?_) rfl (by kernel_rfl) (by kernel_rfl) (by kernel_rfl) (by kernel_rfl) (fun _ _ _ h => h) (Or.inl ⟨by kernel_rfl, ?hy⟩) (by assumption) ?_
    case hy =>
      intro w' hSw
      try dsimp only at hSw
      first
        | (go_simp; done)
        | (go_simp; with_reducible rfl)
    simp only [Act.put, List.setIfInBounds_toArray, List.set_cons_zero, List.set_cons_succ]
    refine wpAnyH_ready (rs := [26]) (by kernel_rfl) (by simp) ?_
    refine AllReadyH.cons rfl (fun K hK => ?_) AllReadyH.nil
    rw [if_pos (by kernel_rfl)]
    go_simp
    refine (own_any p A n c w4.drew (HA4.out.up (Below.refl _ _).drew)).mono ?_
    rintro e w6 ⟨A6, n6, c6, rfl, ho, hb1d⟩
    have hb1 := drew_below hb1d
    have HX6 := Lib.hid (block_below HX4.out hb1 (block_lt HX4.out)); have Hw6 := Lib.hid (Hw4.out.trans (hb1.mono Hw4.out.size)); have HA6 := Lib.hid (HA4.out.up hb1); have HL6 := Lib.hid (HL4.out.up hb1 (Nat.le_refl _))
    have HP6 := Lib.hid (pat_own ho (by have := (Rd.of_own ho).hlen; have := Hpl.out; omega))
    clear ho hb1 hb1d
    refine hK.out _ _ (psg_of HX6.out) (fun hHeld => ?_)
    clear hK K
    refine wpAnyH_ready (rs := [27]) (by kernel_rfl) (by simp) ?_
    refine AllReadyH.cons rfl (fun K hK => ?_) AllReadyH.nil
    rw [if_pos (by kernel_rfl)]
    go_simp
    refine (digest_any p A6 n6 c6 w6 HP6.out Hbo.out).mono ?_
    rintro e w7 ⟨rfl, hb1⟩
    have HX7 := Lib.hid (block_below HX6.out hb1 (block_lt HX6.out)); have Hw7 := Lib.hid (Hw6.out.trans (hb1.mono Hw6.out.size)); have HA7 := Lib.hid (HA6.out.up hb1); have HL7 := Lib.hid (HL6.out.up hb1 (Nat.le_refl _))
    clear hb1
    refine hK.out _ _ (psg_of HX7.out) (fun hHeld => ?_)
    clear hK K
    refine wpAnyH_ready (rs := [29]) (by kernel_rfl) (by simp) ?_
    refine AllReadyH.cons rfl (fun K hK => ?_) AllReadyH.nil
    rw [if_pos (by kernel_rfl)]
    go_simp
    refine (digestr_any p A n c w7 HA7.out Hbo.out).mono ?_
    rintro e w8 ⟨rfl, hb1⟩
    have HX8 := Lib.hid (block_below HX7.out hb1 (block_lt HX7.out)); have Hw8 := Lib.hid (Hw7.out.trans (hb1.mono Hw7.out.size)); have HA8 := Lib.hid (HA7.out.up hb1); have HL8 := Lib.hid (HL7.out.up hb1 (Nat.le_refl _))
    clear hb1
    generalize p.digest = d at *
    refine hK.out _ _ (psg_of HX8.out) (fun hHeld => ?_)
    clear hK K
    refine takeH 30 (some 58) (v := ?_) rfl (by kernel_rfl) (by kernel_rfl) (by kernel_rfl) (by kernel_rfl) (fun _ _ _ h => h) (Or.inl ⟨by kernel_rfl, ?hy⟩) (by assumption) ?_
    case hy =>
      intro w' hSw
      try dsimp only at hSw
      first
        | (go_simp; done)
        | (go_simp; with_reducible rfl)
    simp only [Act.put, List.setIfInBounds_toArray, List.set_cons_zero, List.set_cons_succ]
    refine takeH 31 (some 59) (v := ?_) rfl (by kernel_rfl) (by kernel_rfl) (by kernel_rfl) (by kernel_rfl) (fun _ _ _ h => h) (Or.inl ⟨by kernel_rfl, ?hy⟩) (by assumption) ?_
    case hy =>
      intro w' hSw
      try dsimp only at hSw
      first
        | (go_simp; done)
        | (go_simp; with_reducible rfl)
    simp only [Act.put, List.setIfInBounds_toArray, List.set_cons_zero, List.set_cons_succ]
    refine wpAnyH_done (by kernel_rfl) ?_ _
    go_wp2_with fail
    refine (pdec_any A' n' c' l w8 HL8.out (by omega) Hlt.out).mono ?_
    rintro e w20 ⟨A20, n20, c20, rfl, ho, hb1⟩
    have HL20 := Lib.hid (HL8.out.up hb1 (Nat.le_refl _)); have Hw20 := Lib.hid (Hw8.out.trans (hb1.mono Hw8.out.size))
    have Hq16 := Lib.hid (decPu_held l)
    generalize hqq0 : decPu l = q at *
    have Hqq := Lib.hid hqq0
    clear hqq0
    have HP20 := Lib.hid (pat_own ho (by have := (Rd.of_own ho).hlen; have := Hq16.out; omega))
    clear ho hb1
    go_upto_region 8 with fail
    have HY21 := Lib.hid (heap_alloc_new w20 (.cells #[.int .u8 (q.2.nm.x0 : Int), .int .u8 (q.2.nm.x1 : Int), .int .u8 (q.2.nm.x2 : Int), .int .u8 (q.2.nm.x3 : Int), .int .u8 (q.2.nm.x4 : Int), .int .u8 (q.2.nm.x5 : Int), .int .u8 (q.2.nm.x6 : Int), .int .u8 (q.2.nm.x7 : Int), .int .i64 q.2.no, .int .i64 q.2.h0, .int .i64 q.2.h1, .slice A20 n20 c20] 32))
    have hb1 := below_one w20 (.cells #[.int .u8 (q.2.nm.x0 : Int), .int .u8 (q.2.nm.x1 : Int), .int .u8 (q.2.nm.x2 : Int), .int .u8 (q.2.nm.x3 : Int), .int .u8 (q.2.nm.x4 : Int), .int .u8 (q.2.nm.x5 : Int), .int .u8 (q.2.nm.x6 : Int), .int .u8 (q.2.nm.x7 : Int), .int .i64 q.2.no, .int .i64 q.2.h0, .int .i64 q.2.h1, .slice A20 n20 c20] 32)
    have HL21 := Lib.hid (HL20.out.up hb1 (Nat.le_refl _)); have Hw21 := Lib.hid (Hw20.out.trans (hb1.mono Hw20.out.size)); have HP21 := Lib.hid (HP20.out.up hb1)
    clear hb1
    generalize w20.alloc (.cells #[.int .u8 (q.2.nm.x0 : Int), .int .u8 (q.2.nm.x1 : Int), .int .u8 (q.2.nm.x2 : Int), .int .u8 (q.2.nm.x3 : Int), .int .u8 (q.2.nm.x4 : Int), .int .u8 (q.2.nm.x5 : Int), .int .u8 (q.2.nm.x6 : Int), .int .u8 (q.2.nm.x7 : Int), .int .i64 q.2.no, .int .i64 q.2.h0, .int .i64 q.2.h1, .slice A20 n20 c20] 32) = w21 at *
    generalize w20.heap.size = gy at *
    go_wp2_with fail
    refine (rdec_any A' n' c' l w21 HL21.out hcap' (by omega) Hlt.out).mono ?_
    rw [Hqq.out]
    rintro e w22 ⟨A22, n22, c22, rfl, ho, hb1⟩
    have HY22 := Lib.hid (block_below HY21.out hb1 (block_lt HY21.out)); have Hw22 := Lib.hid (Hw21.out.trans (hb1.mono Hw21.out.size)); have HP22 := Lib.hid (HP21.out.up hb1)
    have HQ22 := Lib.hid (pat_own ho (by have := (Rd.of_own ho).hlen; have := Hq16.out; omega))
    clear ho hb1
    go_upto_region 9 with fail
    have hb1 := below_one w22 (.cells #[.int .u8 (q.2.nm.x0 : Int), .int .u8 (q.2.nm.x1 : Int), .int .u8 (q.2.nm.x2 : Int), .int .u8 (q.2.nm.x3 : Int), .int .u8 (q.2.nm.x4 : Int), .int .u8 (q.2.nm.x5 : Int), .int .u8 (q.2.nm.x6 : Int), .int .u8 (q.2.nm.x7 : Int), .int .i64 q.2.no, .int .i64 q.2.h0, .int .i64 q.2.h1, .slice A22 n22 c22] 26)
    have HZ23 := Lib.hid (heap_alloc_new w22 (.cells #[.int .u8 (q.2.nm.x0 : Int), .int .u8 (q.2.nm.x1 : Int), .int .u8 (q.2.nm.x2 : Int), .int .u8 (q.2.nm.x3 : Int), .int .u8 (q.2.nm.x4 : Int), .int .u8 (q.2.nm.x5 : Int), .int .u8 (q.2.nm.x6 : Int), .int .u8 (q.2.nm.x7 : Int), .int .i64 q.2.no, .int .i64 q.2.h0, .int .i64 q.2.h1, .slice A22 n22 c22] 26))
    have HY23 := Lib.hid (block_below HY22.out hb1 (block_lt HY22.out)); have Hw23 := Lib.hid (Hw22.out.trans (hb1.mono Hw22.out.size)); have HP23 := Lib.hid (HP22.out.up hb1); have HQ23 := Lib.hid (HQ22.out.up hb1)
    clear hb1
    generalize w22.alloc (.cells #[.int .u8 (q.2.nm.x0 : Int), .int .u8 (q.2.nm.x1 : Int), .int .u8 (q.2.nm.x2 : Int), .int .u8 (q.2.nm.x3 : Int), .int .u8 (q.2.nm.x4 : Int), .int .u8 (q.2.nm.x5 : Int), .int .u8 (q.2.nm.x6 : Int), .int .u8 (q.2.nm.x7 : Int), .int .i64 q.2.no, .int .i64 q.2.h0, .int .i64 q.2.h1, .slice A22 n22 c22] 26) = w23 at *
    generalize w22.heap.size = gz at *
    have hqq : (q.1 == q.1) = true := by simp
    refine wp_region_held_drew (S := fun w' => (w'.cell? ⟨gy, 0, none⟩ = some (.int .u8 (q.2.nm.x0 : Int)) ∧ w'.cell? ⟨gy, 1, none⟩ = some (.int .u8 (q.2.nm.x1 : Int)) ∧ w'.cell? ⟨gy, 2, none⟩ = some (.int .u8 (q.2.nm.x2 : Int)) ∧ w'.cell? ⟨gy, 3, none⟩ = some (.int .u8 (q.2.nm.x3 : Int)) ∧ w'.cell? ⟨gy, 4, none⟩ = some (.int .u8 (q.2.nm.x4 : Int)) ∧ w'.cell? ⟨gy, 5, none⟩ = some (.int .u8 (q.2.nm.x5 : Int)) ∧ w'.cell? ⟨gy, 6, none⟩ = some (.int .u8 (q.2.nm.x6 : Int)) ∧ w'.cell? ⟨gy, 7, none⟩ = some (.int .u8 (q.2.nm.x7 : Int)) ∧ w'.cell? ⟨gy, 8, none⟩ = some (.int .i64 q.2.no) ∧ w'.cell? ⟨gy, 9, none⟩ = some (.int .i64 q.2.h0) ∧ w'.cell? ⟨gy, 10, none⟩ = some (.int .i64 q.2.h1) ∧ w'.cell? ⟨gy, 11, none⟩ = some (.slice A20 n20 c20)) ∧ (w'.cell? ⟨gz, 0, none⟩ = some (.int .u8 (q.2.nm.x0 : Int)) ∧ w'.cell? ⟨gz, 1, none⟩ = some (.int .u8 (q.2.nm.x1 : Int)) ∧ w'.cell? ⟨gz, 2, none⟩ = some (.int .u8 (q.2.nm.x2 : Int)) ∧ w'.cell? ⟨gz, 3, none⟩ = some (.int .u8 (q.2.nm.x3 : Int)) ∧ w'.cell? ⟨gz, 4, none⟩ = some (.int .u8 (q.2.nm.x4 : Int)) ∧ w'.cell? ⟨gz, 5, none⟩ = some (.int .u8 (q.2.nm.x5 : Int)) ∧ w'.cell? ⟨gz, 6, none⟩ = some (.int .u8 (q.2.nm.x6 : Int)) ∧ w'.cell? ⟨gz, 7, none⟩ = some (.int .u8 (q.2.nm.x7 : Int)) ∧ w'.cell? ⟨gz, 8, none⟩ = some (.int .i64 q.2.no) ∧ w'.cell? ⟨gz, 9, none⟩ = some (.int .i64 q.2.h0) ∧ w'.cell? ⟨gz, 10, none⟩ = some (.int .i64 q.2.h1) ∧ w'.cell? ⟨gz, 11, none⟩ = some (.slice A22 n22 c22))) (by kernel_rfl) ⟨psg_of (w := w23.drew) HY23.out, psg_of (w := w23.drew) HZ23.out⟩ (fun hHeld => ?_)
    refine takeH 0 (some 70) (v := ?_) rfl (by kernel_rfl) (by kernel_rfl) (by kernel_rfl) (by kernel_rfl) (fun _ _ _ h => h) (Or.inl ⟨by kernel_rfl, ?hy⟩) (by assumption) ?_
    case hy =>
      intro w' hSw
      try dsimp only at hSw
      first
        | (go_simp; done)
        | (go_simp; with_reducible rfl)
    simp only [Act.put, List.setIfInBounds_toArray, List.set_cons_zero, List.set_cons_succ]
    refine takeH 1 (some 71) (v := ?_) rfl (by kernel_rfl) (by kernel_rfl) (by kernel_rfl) (by kernel_rfl) (fun _ _ _ h => h) (Or.inl ⟨by kernel_rfl, ?hy⟩) (by assumption) ?_
    case hy =>
      intro w' hSw
      try dsimp only at hSw
      first
        | (go_simp; done)
        | (go_simp; with_reducible rfl)
    simp only [Act.put, List.setIfInBounds_toArray, List.set_cons_zero, List.set_cons_succ]
    refine takeH 2 (some 72) (v := ?_) rfl (by kernel_rfl) (by kernel_rfl) (by kernel_rfl) (by kernel_rfl) (fun _ _ _ h => h) (Or.inl ⟨by kernel_rfl, ?hy⟩) (by assumption) ?_
    case hy =>
      intro w' hSw
      try dsimp only at hSw
      first
        | (go_simp; done)
        | (go_simp; with_reducible rfl)
    simp only [Act.put, List.setIfInBounds_toArray, List.set_cons_zero, List.set_cons_succ]
    refine takeH 3 (some 73) (v := ?_) rfl (by kernel_rfl) (by kernel_rfl) (by kernel_rfl) (by kernel_rfl) (fun _ _ _ h => h) (Or.inl ⟨by kernel_rfl, ?hy⟩) (by assumption) ?_
    case hy =>
      intro w' hSw
      try dsimp only at hSw
      first
        | (go_simp; done)
        | (go_simp; with_reducible rfl)
    simp only [Act.put, List.setIfInBounds_toArray, List.set_cons_zero, List.set_cons_succ]
    refine takeH 4 (some 74) (v := ?_) rfl (by kernel_rfl) (by kernel_rfl) (by kernel_rfl) (by kernel_rfl) (fun _ _ _ h => h) (Or.inl ⟨by kernel_rfl, ?hy⟩) (by assumption) ?_
    case hy =>
      intro w' hSw
      try dsimp only at hSw
      first
        | (go_simp; done)
        | (go_simp; with_reducible rfl)
    simp only [Act.put, List.setIfInBounds_toArray, List.set_cons_zero, List.set_cons_succ]
    refine takeH 6 (some 76) (v := ?_) rfl (by kernel_rfl) (by kernel_rfl) (by kernel_rfl) (by kernel_rfl) (fun _ _ _ h => h) (Or.inl ⟨by kernel_rfl, ?hy⟩) (by assumption) ?_
    case hy =>
      intro w' hSw
      try dsimp only at hSw
      first
        | (go_simp; done)
        | (go_simp; with_reducible rfl)
    simp only [Act.put, List.setIfInBounds_toArray, List.set_cons_zero, List.set_cons_succ]
    refine wpAnyH_ready (rs := [5]) (by kernel_rfl) (by simp) ?_
    refine AllReadyH.cons rfl (fun K hK => ?_) AllReadyH.nil
    rw [if_pos (by kernel_rfl)]
    go_simp
    refine (backp_any q.2 A20 n20 c20 w23.drew (HP23.out.up (Below.refl _ _).drew)).mono ?_
    rintro e w24 ⟨A24, n24, c24, rfl, ho, hb1d⟩
    have hb1 := drew_below hb1d
    have HY24 := Lib.hid (block_below HY23.out hb1 (block_lt HY23.out)); have HZ24 := Lib.hid (block_below HZ23.out hb1 (block_lt HZ23.out)); have Hw24 := Lib.hid (Hw23.out.trans (hb1.mono Hw23.out.size)); have HQ24 := Lib.hid (HQ23.out.up hb1)
    have HR24 := Lib.hid (pat_own ho (by have := (Rd.of_own ho).hlen; have := Hq16.out; omega))
    clear ho hb1 hb1d
    refine hK.out _ _ ⟨psg_of HY24.out, psg_of HZ24.out⟩ (fun hHeld => ?_)
    clear hK K
    refine wpAnyH_ready (rs := [7]) (by kernel_rfl) (by simp) ?_
    refine AllReadyH.cons rfl (fun K hK => ?_) AllReadyH.nil
    rw [if_pos (by kernel_rfl)]
    go_simp
    refine (samer_any q.2 q.2 A24 A22 n24 c24 n22 c22 w24 HR24.out HQ24.out).mono ?_
    rintro e w25 ⟨rfl, hb1⟩
    have HY25 := Lib.hid (block_below HY24.out hb1 (block_lt HY24.out)); have HZ25 := Lib.hid (block_below HZ24.out hb1 (block_lt HZ24.out)); have Hw25 := Lib.hid (Hw24.out.trans (hb1.mono Hw24.out.size))
    clear hb1
    rw [show q.2.same q.2 = true from Pu.same_iff.2 rfl]
    refine hK.out _ _ ⟨psg_of HY25.out, psg_of HZ25.out⟩ (fun hHeld => ?_)
    clear hK K
    refine takeH 8 (some 78) (v := ?_) rfl (by kernel_rfl) (by kernel_rfl) (by kernel_rfl) (by kernel_rfl) (fun _ _ _ h => h) (Or.inl ⟨by kernel_rfl, ?hy⟩) (by assumption) ?_
    case hy =>
      intro w' hSw
      try dsimp only at hSw
      first
        | (go_simp; done)
        | (go_simp; with_reducible rfl)
    simp only [Act.put, List.setIfInBounds_toArray, List.set_cons_zero, List.set_cons_succ]
    refine takeH 9 (some 79) (v := ?_) rfl (by kernel_rfl) (by kernel_rfl) (by kernel_rfl) (by kernel_rfl) (fun _ _ _ h => h) (Or.inl ⟨by kernel_rfl, ?hy⟩) (by assumption) ?_
    case hy =>
      intro w' hSw
      try dsimp only at hSw
      first
        | (go_simp; done)
        | (go_simp; with_reducible rfl)
    simp only [Act.put, List.setIfInBounds_toArray, List.set_cons_zero, List.set_cons_succ]
    refine wpAnyH_ready (rs := [10]) (by kernel_rfl) (by simp) ?_
    refine AllReadyH.cons rfl (fun K hK => ?_) AllReadyH.nil
    rw [if_pos (by kernel_rfl)]
    go_simp
    refine (told_any w25).mono ?_
    rintro e w26 ⟨rfl, hb1⟩
    have HY26 := Lib.hid (block_below HY25.out hb1 (block_lt HY25.out)); have HZ26 := Lib.hid (block_below HZ25.out hb1 (block_lt HZ25.out)); have Hw26 := Lib.hid (Hw25.out.trans (hb1.mono Hw25.out.size))
    clear hb1
    refine hK.out _ _ ⟨psg_of HY26.out, psg_of HZ26.out⟩ (fun hHeld => ?_)
    clear hK K
    refine takeH 11 (some 81) (v := ?_) rfl (by kernel_rfl) (by kernel_rfl) (by kernel_rfl) (by kernel_rfl) (fun _ _ _ h => h) (Or.inl ⟨by kernel_rfl, ?hy⟩) (by assumption) ?_
    case hy =>
      intro w' hSw
      try dsimp only at hSw
      first
        | (go_simp; done)
        | (go_simp; with_reducible rfl)
    simp only [Act.put, List.setIfInBounds_toArray, List.set_cons_zero, List.set_cons_succ]
    refine wpAnyH_ready (rs := [12]) (by kernel_rfl) (by simp) ?_
    refine AllReadyH.cons rfl (fun K hK => ?_) AllReadyH.nil
    rw [if_pos (by kernel_rfl)]
    go_simp
    refine hK.out _ _ ⟨psg_of HY26.out, psg_of HZ26.out⟩ (fun hHeld => ?_)
    clear hK K
    refine wpAnyH_done (by kernel_rfl) ?_ _
    go_wp2
    go_ret
    exact ⟨rfl, Hw26.out⟩
end Go.Proofs.Ytjiecnoplnaahaa
