/- The reference's Many and Leaf. Condition: bounds. The reference's Reserve. Condition: bounds. An append of an append, in any order: what stands between. Nothing of the program stands in it but its tables, so there is no condition. The reference's Reserve. Condition: bounds. -/
import Derived.Test.YtmpklplojfjfbaaGreatDoorJoinP
import Derived.Test.YtmpklplojfjfbaaGreatDoorJoinY
import Derived.Test.YtmpklplojfjfbaaGreatDoorKfB
import Derived.Test.YtmpklplojfjfbaaGreatDoorJoinL
namespace Go.Proofs.YtmpklplojfjfbaaGreatDoor
open Go.RowKit Go.Lib





set_option maxRecDepth 100000 in
set_option maxHeartbeats 2000000 in
theorem manyr_any (h : Nat) (w : World) (hh : h ≤ 8) : Calls Tryz.prog 31 #[.int .i64 (h : Int)] w fun e w' => e = .returned (.int .i64 ((2 ^ h : Nat) : Int)) ∧ w' = w := by
  go_enter Tryz.func31, Tryz.ntmps31
  go_wp2
  go_loopw [3, 4] (fun s3 s4 wr => ∃ (k N : Nat), k ≤ h ∧ N = 2 ^ k ∧ s3 = .int .i64 (N : Int) ∧ s4 = .int .i64 (k : Int) ∧ wr = w) (fun _ s4 _ => h - (RowKit.intOf s4).toNat)
  case atStart => exact ⟨0, 1, Nat.zero_le _, rfl, rfl, rfl, rfl⟩
  case round =>
    obtain ⟨k, N, hk, hN, rfl, rfl, rfl⟩ := hrel
    have hp := pow_le8 (Nat.le_trans hk hh)
    rw [← hN] at hp
    have HN := Lib.hid hN
    clear hN
    by_cases hlt : k < h
    · have hd1 : decide ((k : Int) < (h : Int)) = true := decide_eq_true (by omega)
      have hw1 : wrap64 (2 * (N : Int)) = ((2 * N : Nat) : Int) := by simp only [wrap64]; omega
      have hw2 : IntKind.i64.wrap (2 * (N : Int)) = ((2 * N : Nat) : Int) := by rw [IntKind.wrap_i64]; omega
      have hs : 2 * N = 2 ^ (k + 1) := by rw [HN.out, Nat.pow_succ]; exact Nat.mul_comm _ _
      have Hs := Lib.hid hs
      have Hk := Lib.hid hlt
      clear hs
      go_wp2
      go_roundw
      case rel => exact ⟨k + 1, 2 * N, Hk.out, Hs.out, by go_num, by go_num, by first | rfl | trivial⟩
      case measure => have := Hk.out; simp [RowKit.intOf]; omega
    · obtain rfl : k = h := by omega
      have hd1 : decide ((k : Int) < (k : Int)) = false := by simp
      go_wp2
      go_ret
      exact ⟨ret_int (by rw [HN.out]), rfl⟩
def leafI (L : List D8) (m : D8) : Int := match posD L m with
  | some i => (i : Int)
  | none => -1
theorem pos_first {L : List D8} {m : D8} {k : Nat} (hk : k < L.length) (he : L.getD k D8.zero = m) (hn : m ∉ L.take k) : posD L m = some k := by
  unfold posD
  rw [List.findIdx?_eq_some_iff_getElem]
  refine ⟨hk, by rw [← he, show L[k] = L.getD k D8.zero from by simp [List.getD_eq_getElem?_getD, List.getElem?_eq_getElem hk]]; exact sameD_iff.2 rfl, fun j hj => ?_⟩
  intro hs
  refine hn ?_
  rw [← sameD_iff.1 hs]
  exact List.mem_take_iff_getElem.2 ⟨j, by omega, rfl⟩
theorem mem_take_succ {L : List D8} {k : Nat} (h : k < L.length) (x : D8) : x ∈ L.take (k + 1) ↔ x ∈ L.take k ∨ x = L.getD k D8.zero := by
  rw [List.take_add_one, List.getElem?_eq_getElem h, List.getD_eq_getElem?_getD, List.getElem?_eq_getElem h]
  exact List.mem_append.trans (or_congr Iff.rfl List.mem_singleton)
theorem free10 {w : World} {b : Nat} {s : D8} {h : Nat} {v : Value} (x : w.heap[b]? = some (.cells #[.int .u8 (s.x0 : Int), .int .u8 (s.x1 : Int), .int .u8 (s.x2 : Int), .int .u8 (s.x3 : Int), .int .u8 (s.x4 : Int), .int .u8 (s.x5 : Int), .int .u8 (s.x6 : Int), .int .u8 (s.x7 : Int), .int .i64 (h : Int), v] 28 (0, 0))) :
    (∀ i, w.frozen? ⟨b, i, none⟩ = false) ∧ w.cell? ⟨b, 0, none⟩ = some (.int .u8 (s.x0 : Int)) ∧ w.cell? ⟨b, 1, none⟩ = some (.int .u8 (s.x1 : Int)) ∧ w.cell? ⟨b, 2, none⟩ = some (.int .u8 (s.x2 : Int)) ∧ w.cell? ⟨b, 3, none⟩ = some (.int .u8 (s.x3 : Int)) ∧ w.cell? ⟨b, 4, none⟩ = some (.int .u8 (s.x4 : Int)) ∧ w.cell? ⟨b, 5, none⟩ = some (.int .u8 (s.x5 : Int)) ∧ w.cell? ⟨b, 6, none⟩ = some (.int .u8 (s.x6 : Int)) ∧ w.cell? ⟨b, 7, none⟩ = some (.int .u8 (s.x7 : Int)) ∧ w.cell? ⟨b, 8, none⟩ = some (.int .i64 (h : Int)) ∧ w.cell? ⟨b, 9, none⟩ = some v :=
  ⟨block_free x, (block_cell x 0).trans rfl, (block_cell x 1).trans rfl, (block_cell x 2).trans rfl, (block_cell x 3).trans rfl, (block_cell x 4).trans rfl, (block_cell x 5).trans rfl, (block_cell x 6).trans rfl, (block_cell x 7).trans rfl, (block_cell x 8).trans rfl, (block_cell x 9).trans rfl⟩
theorem load_rowQ {w : World} {b o : Nat} {d : D8} (x0 : w.cell? ⟨b, o, none⟩ = some (.int .u8 (d.x0 : Int))) (x1 : w.cell? ⟨b, o + 1, none⟩ = some (.int .u8 (d.x1 : Int))) (x2 : w.cell? ⟨b, o + 2, none⟩ = some (.int .u8 (d.x2 : Int))) (x3 : w.cell? ⟨b, o + 3, none⟩ = some (.int .u8 (d.x3 : Int))) (x4 : w.cell? ⟨b, o + 4, none⟩ = some (.int .u8 (d.x4 : Int))) (x5 : w.cell? ⟨b, o + 5, none⟩ = some (.int .u8 (d.x5 : Int))) (x6 : w.cell? ⟨b, o + 6, none⟩ = some (.int .u8 (d.x6 : Int))) (x7 : w.cell? ⟨b, o + 7, none⟩ = some (.int .u8 (d.x7 : Int))) : (Instr.loadAt 22 (.pointer (some ⟨b, o, none⟩))).run Tryz.prog w = .ok (.agg #[.int .u8 (d.x0 : Int), .int .u8 (d.x1 : Int), .int .u8 (d.x2 : Int), .int .u8 (d.x3 : Int), .int .u8 (d.x4 : Int), .int .u8 (d.x5 : Int), .int .u8 (d.x6 : Int), .int .u8 (d.x7 : Int)]) w := by
  go_simp
set_option maxRecDepth 100000 in
set_option maxHeartbeats 4000000 in
theorem leafr_any (s : D8) (h : Nat) (A : Option Addr) (n c : Nat) (L : List D8) (m : D8) (w : World) (hr : Rd w w.heap.size 8 A n (flatD L)) (hn : n ≤ 1000000) :
    Calls Tryz.prog 18 #[.agg #[.int .u8 (s.x0 : Int), .int .u8 (s.x1 : Int), .int .u8 (s.x2 : Int), .int .u8 (s.x3 : Int), .int .u8 (s.x4 : Int), .int .u8 (s.x5 : Int), .int .u8 (s.x6 : Int), .int .u8 (s.x7 : Int), .int .i64 (h : Int), (.slice A n c)], .agg #[.int .u8 (m.x0 : Int), .int .u8 (m.x1 : Int), .int .u8 (m.x2 : Int), .int .u8 (m.x3 : Int), .int .u8 (m.x4 : Int), .int .u8 (m.x5 : Int), .int .u8 (m.x6 : Int), .int .u8 (m.x7 : Int)]] w fun e w' => e = .returned (.int .i64 (leafI L m)) ∧ Below w.heap.size w w' := by
  obtain ⟨hs0, hm0, hw0, hz0⟩ := alloc2 w (.cells #[.int .u8 (s.x0 : Int), .int .u8 (s.x1 : Int), .int .u8 (s.x2 : Int), .int .u8 (s.x3 : Int), .int .u8 (s.x4 : Int), .int .u8 (s.x5 : Int), .int .u8 (s.x6 : Int), .int .u8 (s.x7 : Int), .int .i64 (h : Int), (.slice A n c)] 28) (.cells #[.int .u8 (m.x0 : Int), .int .u8 (m.x1 : Int), .int .u8 (m.x2 : Int), .int .u8 (m.x3 : Int), .int .u8 (m.x4 : Int), .int .u8 (m.x5 : Int), .int .u8 (m.x6 : Int), .int .u8 (m.x7 : Int)] 22)
  have HS0 := Lib.hid hs0; have HM0 := Lib.hid hm0; have Hw0 := Lib.hid hw0
  have Hl := Lib.hid hr.dlenD
  have Hr := Lib.hid (hr.below hw0 (Nat.le_refl _))
  clear hr hs0 hm0 hw0 hz0
  go_enter Tryz.func18, Tryz.ntmps18
  go_upto_region 1 with fail
  generalize (w.alloc (.cells #[.int .u8 (s.x0 : Int), .int .u8 (s.x1 : Int), .int .u8 (s.x2 : Int), .int .u8 (s.x3 : Int), .int .u8 (s.x4 : Int), .int .u8 (s.x5 : Int), .int .u8 (s.x6 : Int), .int .u8 (s.x7 : Int), .int .i64 (h : Int), (.slice A n c)] 28)).alloc (.cells #[.int .u8 (m.x0 : Int), .int .u8 (m.x1 : Int), .int .u8 (m.x2 : Int), .int .u8 (m.x3 : Int), .int .u8 (m.x4 : Int), .int .u8 (m.x5 : Int), .int .u8 (m.x6 : Int), .int .u8 (m.x7 : Int)] 22) = v0 at *
  have hl0 := block_lt HS0.out
  have hlm := block_lt HM0.out
  have c9 : v0.cell? ⟨w.heap.size, 9, none⟩ = some (.slice A n c) := (block_cell HS0.out 9).trans rfl
  have C9 := Lib.hid c9
  clear c9
  go_wp2
  go_loopw [5] (fun i wr => ∃ (k : Nat), k ≤ n ∧ i = .int .i64 (k : Int) ∧ m ∉ L.take k ∧ Below v0.heap.size v0 wr) (fun i _ => n - (RowKit.intOf i).toNat)
  case atStart => exact ⟨0, Nat.zero_le _, rfl, by simp, Below.refl _ _⟩
  case round =>
    obtain ⟨k, hk, rfl, hnm, hbw⟩ := hrel
    have Hbw := Lib.hid hbw; have Hnm := Lib.hid hnm
    clear hbw hnm
    have c9 : wr.cell? ⟨w.heap.size, 9, none⟩ = some (.slice A n c) := (Hbw.out.cell (p := ⟨w.heap.size, 9, none⟩) hl0).trans C9.out
    have hl0w : w.heap.size < wr.heap.size := Nat.lt_of_lt_of_le hl0 Hbw.out.size
    by_cases hlt : k < n
    · have hd1 : decide ((k : Int) < (n : Int)) = true := decide_eq_true (by omega)
      have hki : (k : Int) < (n : Int) := by omega
      have hkl : k < L.length := by have := Hl.out; omega
      have Hk := Lib.hid hlt; have Hkl := Lib.hid hkl
      obtain ⟨b, o, rfl, hb, z0, z1, z2, z3, z4, z5, z6, z7⟩ := Hr.out.di8 hlt
      have Hsn := Lib.hid (mem_take_succ hkl)
      generalize hd : L.getD k D8.zero = d at *
      have Hd := Lib.hid hd
      have hM : ∀ w', Below wr.heap.size wr w' → (Instr.loadAt 22 (.pointer (some ⟨b, o + k * 8, none⟩))).run Tryz.prog w' = .ok (.agg #[.int .u8 (d.x0 : Int), .int .u8 (d.x1 : Int), .int .u8 (d.x2 : Int), .int .u8 (d.x3 : Int), .int .u8 (d.x4 : Int), .int .u8 (d.x5 : Int), .int .u8 (d.x6 : Int), .int .u8 (d.x7 : Int)]) w' := fun w' hx => by
        have hc : ∀ {i : Nat} {v : Value}, v0.cell? ⟨b, i, none⟩ = some v → w'.cell? ⟨b, i, none⟩ = some v := fun {i v} x => ((Hbw.out.trans (hx.mono Hbw.out.size)).cell (p := ⟨b, i, none⟩) (Nat.lt_of_lt_of_le hb (Nat.le_of_lt hl0))).trans x
        exact load_rowQ (hc z0) (hc z1) (hc z2) (hc z3) (hc z4) (hc z5) (hc z6) (hc z7)
      have hX : ∀ w', Below wr.heap.size wr w' → (Instr.loadAt 22 (.pointer (some ⟨w.heap.size + 1, 0, none⟩))).run Tryz.prog w' = .ok (.agg #[.int .u8 (m.x0 : Int), .int .u8 (m.x1 : Int), .int .u8 (m.x2 : Int), .int .u8 (m.x3 : Int), .int .u8 (m.x4 : Int), .int .u8 (m.x5 : Int), .int .u8 (m.x6 : Int), .int .u8 (m.x7 : Int)]) w' := fun w' hx => load_d8 (block_below HM0.out (Hbw.out.trans (hx.mono Hbw.out.size)) hlm)
      have hC : ∀ w', Below wr.heap.size wr w' → w'.cell? ⟨w.heap.size, 9, none⟩ = some (.slice (some ⟨b, o, none⟩) n c) := fun w' hx => (hx.cell (p := ⟨w.heap.size, 9, none⟩) hl0w).trans c9
      have hG : ∀ (x y : Operand) u, (eqGuard .eql 22 x y (.agg #[.int .u8 (d.x0 : Int), .int .u8 (d.x1 : Int), .int .u8 (d.x2 : Int), .int .u8 (d.x3 : Int), .int .u8 (d.x4 : Int), .int .u8 (d.x5 : Int), .int .u8 (d.x6 : Int), .int .u8 (d.x7 : Int)]) (.agg #[.int .u8 (m.x0 : Int), .int .u8 (m.x1 : Int), .int .u8 (m.x2 : Int), .int .u8 (m.x3 : Int), .int .u8 (m.x4 : Int), .int .u8 (m.x5 : Int), .int .u8 (m.x6 : Int), .int .u8 (m.x7 : Int)])).run Tryz.prog u = .ok () u := fun x y u => by first | (go_simp; done) | exact run_eqGuard_agg _ _ _ _ _ _ (by kernel_rfl)
      have hE : ∀ u, (binOp .eql 22 (.agg #[.int .u8 (d.x0 : Int), .int .u8 (d.x1 : Int), .int .u8 (d.x2 : Int), .int .u8 (d.x3 : Int), .int .u8 (d.x4 : Int), .int .u8 (d.x5 : Int), .int .u8 (d.x6 : Int), .int .u8 (d.x7 : Int)]) (.agg #[.int .u8 (m.x0 : Int), .int .u8 (m.x1 : Int), .int .u8 (m.x2 : Int), .int .u8 (m.x3 : Int), .int .u8 (m.x4 : Int), .int .u8 (m.x5 : Int), .int .u8 (m.x6 : Int), .int .u8 (m.x7 : Int)])).run Tryz.prog u = .ok (.bool (sameD d m)) u := fun u => eql_digR _ _ _ _ _ _ _ _ _ _ _ _ _ _ _ _ u
      clear z0 z1 z2 z3 z4 z5 z6 z7 hkl hd
      go_upto_region 4 with fail
      refine wp_region_held_drew (S := fun w' => Below wr.heap.size wr w') (by kernel_rfl) ((Below.refl wr.heap.size wr).drew) (fun hHeld => ?_)
      rw [show Array.replicate _ false = (#[false, false, false, false, false, false, false] : Array Bool) from rfl]
      refine takeH 0 (some 13) (v := ?_) rfl (by kernel_rfl) (by kernel_rfl) (by kernel_rfl) (by kernel_rfl) (fun _ _ _ h => h) (Or.inl ⟨by kernel_rfl, ?hy⟩) (by assumption) ?_
      case hy =>
        intro w' hSw
        clear hSw
        first
          | (go_simp; done)
          | (go_simp; with_reducible rfl)
      simp only [Act.put, List.setIfInBounds_toArray, List.set_cons_zero, List.set_cons_succ]
      refine takeH 1 (some 14) (v := ?_) rfl (by kernel_rfl) (by kernel_rfl) (by kernel_rfl) (by kernel_rfl) (fun _ _ _ h => h) (Or.inl ⟨by kernel_rfl, ?hy⟩) (by assumption) ?_
      case hy =>
        intro w' hSw
        have hx := hC w' hSw
        clear hSw
        first
          | (go_simp; done)
          | (go_simp; with_reducible rfl)
      simp only [Act.put, List.setIfInBounds_toArray, List.set_cons_zero, List.set_cons_succ]
      refine takeH 2 (some 15) (v := ?_) rfl (by kernel_rfl) (by kernel_rfl) (by kernel_rfl) (by kernel_rfl) (fun _ _ _ h => h) (Or.inl ⟨by kernel_rfl, ?hy⟩) (by assumption) ?_
      case hy =>
        intro w' hSw
        clear hSw
        first
          | (go_simp; done)
          | (go_simp; with_reducible rfl)
      simp only [Act.put, List.setIfInBounds_toArray, List.set_cons_zero, List.set_cons_succ]
      refine takeH 3 (some 16) (v := ?_) rfl (by kernel_rfl) (by kernel_rfl) (by kernel_rfl) (by kernel_rfl) (fun _ _ _ h => h) (Or.inl ⟨by kernel_rfl, ?hy⟩) (by assumption) ?_
      case hy =>
        intro w' hSw
        clear hSw
        first
          | (go_simp; done)
          | (go_simp; with_reducible rfl)
      simp only [Act.put, List.setIfInBounds_toArray, List.set_cons_zero, List.set_cons_succ]
      refine takeH 4 (some 17) (v := .agg #[.int .u8 (d.x0 : Int), .int .u8 (d.x1 : Int), .int .u8 (d.x2 : Int), .int .u8 (d.x3 : Int), .int .u8 (d.x4 : Int), .int .u8 (d.x5 : Int), .int .u8 (d.x6 : Int), .int .u8 (d.x7 : Int)]) rfl (by kernel_rfl) (by kernel_rfl) (by kernel_rfl) (by kernel_rfl) (fun _ _ _ h => h) (Or.inl ⟨by kernel_rfl, ?hy⟩) (by assumption) ?_
      case hy =>
        intro w' hSw
        simp [execOp, Act.eval, hM w' hSw, Result.andThen]
      simp only [Act.put, List.setIfInBounds_toArray, List.set_cons_zero, List.set_cons_succ]
      refine takeH 5 (some 18) (v := .agg #[.int .u8 (m.x0 : Int), .int .u8 (m.x1 : Int), .int .u8 (m.x2 : Int), .int .u8 (m.x3 : Int), .int .u8 (m.x4 : Int), .int .u8 (m.x5 : Int), .int .u8 (m.x6 : Int), .int .u8 (m.x7 : Int)]) rfl (by kernel_rfl) (by kernel_rfl) (by kernel_rfl) (by kernel_rfl) (fun _ _ _ h => h) (Or.inl ⟨by kernel_rfl, ?hy⟩) (by assumption) ?_
      case hy =>
        intro w' hSw
        simp [execOp, Act.eval, hX w' hSw, Result.andThen]
      simp only [Act.put, List.setIfInBounds_toArray, List.set_cons_zero, List.set_cons_succ]
      by_cases hdm : d = m
      · subst hdm
        rw [show sameD d d = true from sameD_iff.2 rfl] at hE
        refine takeH 6 (some 19) (v := .bool true) rfl (by kernel_rfl) (by kernel_rfl) (by kernel_rfl) (by kernel_rfl) (fun _ _ _ h => h) (Or.inl ⟨by kernel_rfl, fun w' _ => exec_binD (by rfl) (by rfl) (by rfl) (hG _ _ w') (hE w')⟩) (by assumption) ?_
        simp only [Act.put, List.setIfInBounds_toArray, List.set_cons_zero, List.set_cons_succ]
        refine wpAnyH_done (by kernel_rfl) ?_ _
        have Hp := Lib.hid (pos_first Hkl.out Hd.out Hnm.out)
        clear hM hX hC hG hE
        go_wp2
        go_ret
        exact ⟨ret_int (by unfold leafI; rw [Hp.out]), Hw0.out.trans ((Hbw.out.drew).mono Hw0.out.size)⟩
      · rw [show sameD d m = false from by cases hq : sameD d m with | false => rfl | true => exact absurd (sameD_iff.1 hq) hdm] at hE
        refine takeH 6 (some 19) (v := .bool false) rfl (by kernel_rfl) (by kernel_rfl) (by kernel_rfl) (by kernel_rfl) (fun _ _ _ h => h) (Or.inl ⟨by kernel_rfl, fun w' _ => exec_binD (by rfl) (by rfl) (by rfl) (hG _ _ w') (hE w')⟩) (by assumption) ?_
        simp only [Act.put, List.setIfInBounds_toArray, List.set_cons_zero, List.set_cons_succ]
        refine wpAnyH_done (by kernel_rfl) ?_ _
        have Hn2 : Hid (m ∉ L.take (k + 1)) := Lib.hid (by
          rw [Hsn.out]
          rintro (h1 | h1)
          · exact Hnm.out h1
          · exact hdm h1.symm)
        clear hM hX hC hG hE
        go_wp2
        go_roundw
        case rel => exact ⟨k + 1, Hk.out, by go_num, Hn2.out, Hbw.out.drew⟩
        case measure => have := Hk.out; simp [RowKit.intOf]; omega
    · obtain rfl : k = n := by omega
      have hd1 : decide ((k : Int) < (k : Int)) = false := by simp
      have Hp : Hid (posD L m = none) := Lib.hid (by
        rw [posD_none]
        have := Hnm.out
        rwa [List.take_of_length_le (by rw [Hl.out]; exact Nat.le_refl _)] at this)
      go_wp2
      go_ret
      exact ⟨ret_int (by unfold leafI; rw [Hp.out]), Hw0.out.trans (Hbw.out.mono Hw0.out.size)⟩
end Go.Proofs.YtmpklplojfjfbaaGreatDoor
namespace Go.Proofs.YtmpklplojfjfbaaGreatDoor
open Go.RowKit Go.Lib





/-- An append from any slice that reads as cells, and where the row lies then. -/
theorem step_append_any {P : Program} {ops : Array Oper} {o : Oper} {a : Act} {K : Act → World → Prop} {Q : Exit → Act → World → Prop} {E : Prop} (w : World) (hgd : o.guard = none) (s x : Operand) (t : TypeId)
    (ho : o.op = .call { callee := .builtin .append, args := #[s, x], argTypes := #[t, t] })
    (base : Nat) (e : TypeId) (i : TypeInfo) (z : Value) (sz bytes : Nat) (ht : P.underlying t = some (.slice e)) (hinfo : P.info? e = some i ∧ i.zero = some z ∧ i.size = sz ∧ i.bytes = bytes)
    (hzs : z.cells.size = sz) (hsz : 0 < sz) (v : Value) (n : Nat) (xs : List Value) (hs : a.eval s = v) (hown : w.ownsRow base e sz v n xs)
    (B : Nat) (A : Option Addr) (m c : Nat) (news : List Value) (hx : a.eval x = .slice A m c) (hr : Rd w B sz A m news) (h1 : ∀ u ∈ news, u.oneCell' = true)
    (h63 : n + m ≤ 281474976710656) (hbytes : (n + m) * bytes ≤ 140737488355328) (hbase : base ≤ w.heap.size)
    (h : ∀ v' w', w'.ownsRow base e sz v' (n + m) (xs ++ news) → w.grownBy w' v.ownBlock → (v'.ownBlock = v.ownBlock ∨ v'.ownBlock = some w.heap.size) → K (a.put o.dst v') w') : if Region.wanted o (yielded ops a.tmps) = true then Oper.wp P o a w K Q else E := by
  rcases Nat.eq_zero_or_pos m with h0 | h0
  · subst h0
    have hn : news = [] := List.eq_nil_of_length_eq_zero (by simpa using hr.1)
    subst hn
    rw [if_pos (by simp [Region.wanted, hgd])]
    cases A with
    | none =>
      have hrun := run_app_nil (P := P) w base t o.type e i sz ht hinfo.1 v n xs hown c
      unfold Oper.wp execOp
      simp only [ho, resolve, invoke, builtin, Sem.run_bind, Sem.run_pure, Result.andThen_ok, List.map_toArray, List.map_cons, List.map_nil, hs, hx, hrun]
      exact h v w (by simpa using hown) (World.grownBy.refl _ _) (Or.inl rfl)
    | some ad =>
      obtain ⟨v', w', hr1, h2, h3, h4, h5⟩ := run_append_own_at (P := P) w base t o.type e i z sz bytes ht hinfo.1 hinfo.2.1 hinfo.2.2.1 hinfo.2.2.2 hzs hsz v n xs hown ad 0 c [] hr.1 (by intro j u hu; simp at hu) h1 (by simp only [maxLen]; omega) hbytes hbase
      unfold Oper.wp execOp
      simp only [ho, resolve, invoke, builtin, Sem.run_bind, Sem.run_pure, Result.andThen_ok, List.map_toArray, List.map_cons, List.map_nil, hs, hx, hr1]
      exact h v' w' h2 h3 h5
  · obtain ⟨b, o', e1, _, _⟩ := hr.2 h0
    subst e1
    exact step_append_at w hgd s x t ho base e i z sz bytes ht hinfo hzs hsz v n xs hs hown B b o' m c news hx h0 hr h1 h63 hbytes hbase h
theorem set10 {w : World} {g : Nat} {T : TypeId} {c0 c1 c2 c3 c4 c5 c6 c7 c8 c9 : Value} (h : w.heap[g]? = some (.cells #[c0, c1, c2, c3, c4, c5, c6, c7, c8, c9] T (0, 0))) (v0 v1 v2 v3 v4 v5 v6 v7 v8 v9 : Value) :
    ((((((((((w.setCell ⟨g, 0, none⟩ v0).setCell ⟨g, 1, none⟩ v1).setCell ⟨g, 2, none⟩ v2).setCell ⟨g, 3, none⟩ v3).setCell ⟨g, 4, none⟩ v4).setCell ⟨g, 5, none⟩ v5).setCell ⟨g, 6, none⟩ v6).setCell ⟨g, 7, none⟩ v7).setCell ⟨g, 8, none⟩ v8).setCell ⟨g, 9, none⟩ v9).heap[g]? = some (.cells #[v0, v1, v2, v3, v4, v5, v6, v7, v8, v9] T (0, 0)) := by
  have h0 := Joins.block_setCell (i := 0) h v0
  have h1 := Joins.block_setCell (i := 1) h0 v1
  have h2 := Joins.block_setCell (i := 2) h1 v2
  have h3 := Joins.block_setCell (i := 3) h2 v3
  have h4 := Joins.block_setCell (i := 4) h3 v4
  have h5 := Joins.block_setCell (i := 5) h4 v5
  have h6 := Joins.block_setCell (i := 6) h5 v6
  have h7 := Joins.block_setCell (i := 7) h6 v7
  have h8 := Joins.block_setCell (i := 8) h7 v8
  have h9 := Joins.block_setCell (i := 9) h8 v9
  simpa using h9
theorem grown_set10 (w : World) (g : Nat) (v0 v1 v2 v3 v4 v5 v6 v7 v8 v9 : Value) : w.grownBy ((((((((((w.setCell ⟨g, 0, none⟩ v0).setCell ⟨g, 1, none⟩ v1).setCell ⟨g, 2, none⟩ v2).setCell ⟨g, 3, none⟩ v3).setCell ⟨g, 4, none⟩ v4).setCell ⟨g, 5, none⟩ v5).setCell ⟨g, 6, none⟩ v6).setCell ⟨g, 7, none⟩ v7).setCell ⟨g, 8, none⟩ v8).setCell ⟨g, 9, none⟩ v9) (some g) :=
  ((((((((((grown_set1 w g 0 v0).trans (grown_set1 _ g 1 v1)).trans (grown_set1 _ g 2 v2)).trans (grown_set1 _ g 3 v3)).trans (grown_set1 _ g 4 v4)).trans (grown_set1 _ g 5 v5)).trans (grown_set1 _ g 6 v6)).trans (grown_set1 _ g 7 v7)).trans (grown_set1 _ g 8 v8)).trans (grown_set1 _ g 9 v9))
def rgZ : Value := .agg #[.int .u8 0, .int .u8 0, .int .u8 0, .int .u8 0, .int .u8 0, .int .u8 0, .int .u8 0, .int .u8 0, .int .i64 0, .slice none 0 0]
end Go.Proofs.YtmpklplojfjfbaaGreatDoor
namespace Go.Proofs.YtmpklplojfjfbaaGreatDoor
open Go.RowKit Go.Lib




theorem listed_in {L : Array Bool} {i k : Nat} (h : L.getD k false = true) : (L.setIfInBounds i true).getD k false = true := getD_set_true h
theorem set_ne {L : Array Bool} {i k : Nat} (h : i ≠ k) : (L.setIfInBounds i true).getD k false = L.getD k false := getD_set_ne false h
theorem set_at {L : Array Bool} {i : Nat} (h : L.getD i true = false) : (L.setIfInBounds i true).getD i false = true := by
  have hlt : i < L.size := by
    rcases Nat.lt_or_ge i L.size with h' | h'
    · exact h'
    · rw [Array.getD_eq_getD_getElem?, Array.getElem?_eq_none h'] at h; simp at h
  simp [hlt]
theorem yet {L : Array Bool} {i : Nat} (h : L.getD i true = false) : L.getD i false = false := by
  have hlt : i < L.size := by
    rcases Nat.lt_or_ge i L.size with h' | h'
    · exact h'
    · rw [Array.getD_eq_getD_getElem?, Array.getElem?_eq_none h'] at h; simp at h
  rw [← h]; exact getD_in hlt _ _
section
variable {P : Program} {ops : Array Oper} {o : Oper} {a : Act} {w : World} {K : Act → World → Prop} {Q : Exit → Act → World → Prop} {E : Prop}
theorem exec_field {x : Operand} {X V : Value} {t : TypeId} {k : Nat} (ho : o.op = .fieldAddr t x k) (hx : a.eval x = X) (hr : (Instr.fieldAt t X k).run P w = .ok V w) : (execOp a.eval o).run P w = .ok (.value V) w := by
  simp [execOp, ho, hx, hr, Result.andThen]
theorem step_store {x y : Operand} {X V : Value} {t : TypeId} (w' : World) (hg : o.guard = none) (ho : o.op = .store t x y) (hx : a.eval x = X) (hy : a.eval y = V) (hr : (Instr.storeAt t X V).run P w = .ok () w') (h : K (a.put o.dst undef) w') : if Region.wanted o (yielded ops a.tmps) = true then Oper.wp P o a w K Q else E := by
  rw [if_pos (by simp [Region.wanted, hg])]
  unfold Oper.wp
  simp only [execOp, ho, hx, hy, Sem.run_bind, hr, Result.andThen_ok]
  exact h
theorem step_empty (i : TypeInfo) (t e : TypeId) (hg : o.guard = none) (ho : o.op = .buildSlice t 0 #[]) (hu : P.underlying t = some (.slice e)) (hi : P.info? e = some i) (h : K (a.put o.dst (.slice (some ⟨w.heap.size, 0, none⟩) 0 0)) (w.alloc (.cells #[] e))) : if Region.wanted o (yielded ops a.tmps) = true then Oper.wp P o a w K Q else E := by
  rw [if_pos (by simp [Region.wanted, hg])]
  have hr : (Instr.buildSlice t 0 #[]).run P w = .ok (.slice (some ⟨w.heap.size, 0, none⟩) 0 0) (w.alloc (.cells #[] e)) := by
    simp [Instr.buildSlice, run_underlying hu, sizeOf, typeInfo, hi, Instr.fill, newRow]
    rw [Array.eq_empty_of_size_eq_zero (xs := Array.map (fun _ : Nat => (default : Value)) (Array.range 0)) (by simp)]
  unfold Oper.wp
  simp only [execOp, ho, List.map_toArray, List.map_nil, Sem.run_bind, hr, Result.andThen_ok]
  exact h
end
theorem load_sl {w : World} {b o n c : Nat} {A : Option Addr} (h : w.cell? ⟨b, o, none⟩ = some (.slice A n c)) : (Instr.loadAt 26 (.pointer (some ⟨b, o, none⟩))).run Tryz.prog w = .ok (.slice A n c) w := by
  go_simp
theorem store_sl {w : World} {b o n c B sz k : Nat} {A : Option Addr} {e : TypeId} {v : Value} {xs : List Value} (ho : w.ownsRow B e sz v k xs) (h : w.cell? ⟨b, o, none⟩ = some (.slice A n c)) (hf : w.frozen? ⟨b, o, none⟩ = false) : (Instr.storeAt 26 (.pointer (some ⟨b, o, none⟩)) v).run Tryz.prog w = .ok () (w.setCell ⟨b, o, none⟩ v) := by
  obtain ⟨A', c', rfl⟩ := own_form ho
  clear ho
  go_simp
def ResI (W : World) (bs : Nat) (A : Option Addr) (n c : Nat) (xs : List Value) (m : D8) (a0 : Act) (L : Array Bool) (a : Act) (x : World) : Prop :=
  ∃ q0 q1 q2 q3 q4 q5 q6 q7 : Value, a = ((((((((a0.put (some 23) q0).put (some 24) q1).put (some 25) q2).put (some 26) q3).put (some 27) q4).put (some 28) q5).put (some 29) q6).put (some 30) q7) ∧
    (L.getD 8 false = false → Below W.heap.size W x) ∧
    (L.getD 8 false = true → ∃ (u : World) (v : Value), Below W.heap.size W u ∧ u.ownsRow W.heap.size 22 8 v (n + 1) (xs ++ m.cells) ∧ x = u.setCell ⟨bs, 9, none⟩ v) ∧
    (L.getD 0 false = true → L.getD 3 false = false → x.ownsRow W.heap.size 22 8 q0 0 []) ∧
    (L.getD 1 false = true → q1 = .pointer (some ⟨bs, 9, none⟩)) ∧
    (L.getD 2 false = true → q2 = .slice A n c) ∧
    (L.getD 3 false = true → L.getD 6 false = false → x.ownsRow W.heap.size 22 8 q3 n xs) ∧
    (L.getD 4 false = true → q4 = .agg #[.int .u8 (m.x0 : Int), .int .u8 (m.x1 : Int), .int .u8 (m.x2 : Int), .int .u8 (m.x3 : Int), .int .u8 (m.x4 : Int), .int .u8 (m.x5 : Int), .int .u8 (m.x6 : Int), .int .u8 (m.x7 : Int)]) ∧
    (L.getD 5 false = true → L.getD 6 false = false → ∃ g, q5 = .slice (some ⟨g, 0, none⟩) 1 1 ∧ x.heap[g]? = some (.cells m.cells.toArray 22 (0, 0))) ∧
    (L.getD 6 false = true → L.getD 8 false = false → x.ownsRow W.heap.size 22 8 q6 (n + 1) (xs ++ m.cells)) ∧
    (L.getD 7 false = true → q7 = .pointer (some ⟨bs, 9, none⟩)) ∧
    (L.getD 0 false = true → L.getD 5 false = true → L.getD 3 false = false → ∀ g, q0.ownBlock = some g → q5.ownBlock ≠ some g) ∧
    (L.getD 8 false = true → ∀ i, i < 8 → L.getD i false = true) ∧
    (L.getD 6 false = true → ∀ i, i < 6 → L.getD i false = true) ∧
    (L.getD 2 false = true → L.getD 1 false = true) ∧
    (L.getD 3 false = true → L.getD 0 false = true ∧ L.getD 1 false = true ∧ L.getD 2 false = true) ∧
    (L.getD 5 false = true → L.getD 4 false = true)
theorem resI_mk {W : World} {bs : Nat} {A : Option Addr} {n c : Nat} {xs : List Value} {m : D8} {a0 : Act} {L : Array Bool} {a : Act} {x : World} (q0 q1 q2 q3 q4 q5 q6 q7 : Value) (h : a = ((((((((a0.put (some 23) q0).put (some 24) q1).put (some 25) q2).put (some 26) q3).put (some 27) q4).put (some 28) q5).put (some 29) q6).put (some 30) q7)) (wd : L.getD 8 false = false → Below W.heap.size W x) (wf : L.getD 8 false = true → ∃ (u : World) (v : Value), Below W.heap.size W u ∧ u.ownsRow W.heap.size 22 8 v (n + 1) (xs ++ m.cells) ∧ x = u.setCell ⟨bs, 9, none⟩ v) (c0 : L.getD 0 false = true → L.getD 3 false = false → x.ownsRow W.heap.size 22 8 q0 0 []) (c1 : L.getD 1 false = true → q1 = .pointer (some ⟨bs, 9, none⟩)) (c2 : L.getD 2 false = true → q2 = .slice A n c) (c3 : L.getD 3 false = true → L.getD 6 false = false → x.ownsRow W.heap.size 22 8 q3 n xs) (c4 : L.getD 4 false = true → q4 = .agg #[.int .u8 (m.x0 : Int), .int .u8 (m.x1 : Int), .int .u8 (m.x2 : Int), .int .u8 (m.x3 : Int), .int .u8 (m.x4 : Int), .int .u8 (m.x5 : Int), .int .u8 (m.x6 : Int), .int .u8 (m.x7 : Int)]) (c5 : L.getD 5 false = true → L.getD 6 false = false → ∃ g, q5 = .slice (some ⟨g, 0, none⟩) 1 1 ∧ x.heap[g]? = some (.cells m.cells.toArray 22 (0, 0))) (c6 : L.getD 6 false = true → L.getD 8 false = false → x.ownsRow W.heap.size 22 8 q6 (n + 1) (xs ++ m.cells)) (c7 : L.getD 7 false = true → q7 = .pointer (some ⟨bs, 9, none⟩)) (d05 : L.getD 0 false = true → L.getD 5 false = true → L.getD 3 false = false → ∀ g, q0.ownBlock = some g → q5.ownBlock ≠ some g) (a8 : L.getD 8 false = true → ∀ i, i < 8 → L.getD i false = true) (a6 : L.getD 6 false = true → ∀ i, i < 6 → L.getD i false = true) (a2 : L.getD 2 false = true → L.getD 1 false = true) (a3 : L.getD 3 false = true → L.getD 0 false = true ∧ L.getD 1 false = true ∧ L.getD 2 false = true) (a5 : L.getD 5 false = true → L.getD 4 false = true) : ResI W bs A n c xs m a0 L a x :=
  ⟨q0, q1, q2, q3, q4, q5, q6, q7, h, wd, wf, c0, c1, c2, c3, c4, c5, c6, c7, d05, a8, a6, a2, a3, a5⟩
end Go.Proofs.YtmpklplojfjfbaaGreatDoor
namespace Go.Proofs.YtmpklplojfjfbaaGreatDoor
open Go.RowKit Go.Lib






theorem info_T8 : (Tryz.prog.info? 22).map (fun i => (i.zero, i.size, i.bytes)) = some (some (.agg #[.int .u8 0, .int .u8 0, .int .u8 0, .int .u8 0, .int .u8 0, .int .u8 0, .int .u8 0, .int .u8 0]), 8, 8) := by kernel_rfl
/-- A row is the old one, or a new one. -/
def Fresh (w w' : World) (A A' : Option Addr) : Prop := A' = A ∨ ∀ ad, A' = some ad → w.heap.size ≤ ad.block ∧ ad.block < w'.heap.size
/-- What is reserved, by the reference. -/
def GivesRR (s : D8) (h : Nat) (L : List D8) (m : D8) (A0 : Option Addr) (w : World) (e : Ending) (w' : World) : Prop :=
  ∃ (A : Option Addr) (n c : Nat), e = .returned (.tuple #[.agg #[.int .u8 (s.x0 : Int), .int .u8 (s.x1 : Int), .int .u8 (s.x2 : Int), .int .u8 (s.x3 : Int), .int .u8 (s.x4 : Int), .int .u8 (s.x5 : Int), .int .u8 (s.x6 : Int), .int .u8 (s.x7 : Int), .int .i64 (h : Int), (.slice A n c)], .int .i64 (((RingM.mk s h L).reserve m).2.1 : Int), .int .i64 (((RingM.mk s h L).reserve m).2.2 : Int)]) ∧ Rd w' w'.heap.size 8 A n (flatD ((RingM.mk s h L).reserve m).1.led) ∧ Below w.heap.size w w' ∧ Fresh w w' A0 A
set_option maxRecDepth 100000 in
set_option maxHeartbeats 4000000 in
theorem reserver_any (s : D8) (h : Nat) (A : Option Addr) (n c : Nat) (L : List D8) (m : D8) (w : World) (hr : Rd w w.heap.size 8 A n (flatD L)) (hn : n ≤ 1000) (hh : h ≤ 8) :
    Calls Tryz.prog 16 #[.agg #[.int .u8 (s.x0 : Int), .int .u8 (s.x1 : Int), .int .u8 (s.x2 : Int), .int .u8 (s.x3 : Int), .int .u8 (s.x4 : Int), .int .u8 (s.x5 : Int), .int .u8 (s.x6 : Int), .int .u8 (s.x7 : Int), .int .i64 (h : Int), (.slice A n c)], .agg #[.int .u8 (m.x0 : Int), .int .u8 (m.x1 : Int), .int .u8 (m.x2 : Int), .int .u8 (m.x3 : Int), .int .u8 (m.x4 : Int), .int .u8 (m.x5 : Int), .int .u8 (m.x6 : Int), .int .u8 (m.x7 : Int)]] w (GivesRR s h L m A w) := by
  obtain ⟨hs0, hm0, hx0, hw0, hz0⟩ := alloc3 w (.cells #[.int .u8 (s.x0 : Int), .int .u8 (s.x1 : Int), .int .u8 (s.x2 : Int), .int .u8 (s.x3 : Int), .int .u8 (s.x4 : Int), .int .u8 (s.x5 : Int), .int .u8 (s.x6 : Int), .int .u8 (s.x7 : Int), .int .i64 (h : Int), (.slice A n c)] 28) (.cells #[.int .u8 (m.x0 : Int), .int .u8 (m.x1 : Int), .int .u8 (m.x2 : Int), .int .u8 (m.x3 : Int), .int .u8 (m.x4 : Int), .int .u8 (m.x5 : Int), .int .u8 (m.x6 : Int), .int .u8 (m.x7 : Int)] 22) (.cells #[.int .u8 0, .int .u8 0, .int .u8 0, .int .u8 0, .int .u8 0, .int .u8 0, .int .u8 0, .int .u8 0, .int .i64 0, .slice none 0 0] 28)
  have HS0 := Lib.hid hs0; have HM0 := Lib.hid hm0; have HX0 := Lib.hid hx0; have Hw0 := Lib.hid hw0
  have Hl := Lib.hid hr.dlenD
  have Hr := Lib.hid ((hr.below hw0 (Nat.le_refl _)).more hw0.size); have Hr0 := Lib.hid hr
  clear hr hs0 hm0 hx0 hw0 hz0
  go_enter Tryz.func16, Tryz.ntmps16
  go_upto_region 1 with fail
  generalize ((w.alloc (.cells #[.int .u8 (s.x0 : Int), .int .u8 (s.x1 : Int), .int .u8 (s.x2 : Int), .int .u8 (s.x3 : Int), .int .u8 (s.x4 : Int), .int .u8 (s.x5 : Int), .int .u8 (s.x6 : Int), .int .u8 (s.x7 : Int), .int .i64 (h : Int), (.slice A n c)] 28)).alloc (.cells #[.int .u8 (m.x0 : Int), .int .u8 (m.x1 : Int), .int .u8 (m.x2 : Int), .int .u8 (m.x3 : Int), .int .u8 (m.x4 : Int), .int .u8 (m.x5 : Int), .int .u8 (m.x6 : Int), .int .u8 (m.x7 : Int)] 22)).alloc (.cells #[.int .u8 0, .int .u8 0, .int .u8 0, .int .u8 0, .int .u8 0, .int .u8 0, .int .u8 0, .int .u8 0, .int .i64 0, .slice none 0 0] 28) = v0 at *
  obtain ⟨zf, r0, r1, r2, r3, r4, r5, r6, r7, r8, r9⟩ := free10 HS0.out
  obtain ⟨yf, y0, y1, y2, y3, y4, y5, y6, y7⟩ := free8 HM0.out
  have hl0 := block_lt HS0.out; have hl1 := block_lt HM0.out
  clear zf yf
  go_wp2_with fail
  refine (leafr_any s h A n c L m v0 Hr.out (by omega)).mono ?_
  rintro e v1 ⟨rfl, hb1⟩
  have HS1 := Lib.hid (block_below HS0.out hb1 hl0); have HM1 := Lib.hid (block_below HM0.out hb1 hl1); have HX1 := Lib.hid (block_below HX0.out hb1 (block_lt HX0.out)); have Hw1 := Lib.hid (Hw0.out.trans (hb1.mono Hw0.out.size)); have Hr1 := Lib.hid ((Hr.out.below hb1 (Nat.le_refl _)).more hb1.size)
  clear hb1 r0 r1 r2 r3 r4 r5 r6 r7 r8 r9 y0 y1 y2 y3 y4 y5 y6 y7 HS0 HM0 HX0 Hw0 Hr hl0 hl1
  cases hpos : posD L m with
  | some i =>
    have Hi : Hid (leafI L m = (i : Int)) := Lib.hid (by unfold leafI; rw [hpos])
    have Hres : Hid ((RingM.mk s h L).reserve m = (⟨s, h, L⟩, i, 0)) := Lib.hid (by unfold RingM.reserve; simp only [hpos])
    rw [Hi.out]
    have hd0 : decide ((0 : Int) ≤ (i : Int)) = true := by simp
    obtain ⟨zf, r0, r1, r2, r3, r4, r5, r6, r7, r8, r9⟩ := free10 HS1.out
    obtain ⟨yf, x0, x1, x2, x3, x4, x5, x6, x7, x8, x9⟩ := free10 (s := D8.zero) (h := 0) HX1.out
    have hl0 := block_lt HS1.out; have hlx := block_lt HX1.out
    have HX := Lib.hid HX1.out; have Hbw := Lib.hid Hw1.out
    clear zf hpos
    go_wp2
    clear yf x0 x1 x2 x3 x4 x5 x6 x7 x8 x9 r0 r1 r2 r3 r4 r5 r6 r7 r8 r9
    have h10 := set10 HX.out (.int .u8 (s.x0 : Int)) (.int .u8 (s.x1 : Int)) (.int .u8 (s.x2 : Int)) (.int .u8 (s.x3 : Int)) (.int .u8 (s.x4 : Int)) (.int .u8 (s.x5 : Int)) (.int .u8 (s.x6 : Int)) (.int .u8 (s.x7 : Int)) (.int .i64 (h : Int)) (.slice A n c)
    have hg10 := grown_set10 v1 (w.heap.size + 1 + 1) (.int .u8 (s.x0 : Int)) (.int .u8 (s.x1 : Int)) (.int .u8 (s.x2 : Int)) (.int .u8 (s.x3 : Int)) (.int .u8 (s.x4 : Int)) (.int .u8 (s.x5 : Int)) (.int .u8 (s.x6 : Int)) (.int .u8 (s.x7 : Int)) (.int .i64 (h : Int)) (.slice A n c)
    generalize ((((((((((v1.setCell ⟨w.heap.size + 1 + 1, 0, none⟩ (.int .u8 (s.x0 : Int))).setCell ⟨w.heap.size + 1 + 1, 1, none⟩ (.int .u8 (s.x1 : Int))).setCell ⟨w.heap.size + 1 + 1, 2, none⟩ (.int .u8 (s.x2 : Int))).setCell ⟨w.heap.size + 1 + 1, 3, none⟩ (.int .u8 (s.x3 : Int))).setCell ⟨w.heap.size + 1 + 1, 4, none⟩ (.int .u8 (s.x4 : Int))).setCell ⟨w.heap.size + 1 + 1, 5, none⟩ (.int .u8 (s.x5 : Int))).setCell ⟨w.heap.size + 1 + 1, 6, none⟩ (.int .u8 (s.x6 : Int))).setCell ⟨w.heap.size + 1 + 1, 7, none⟩ (.int .u8 (s.x7 : Int))).setCell ⟨w.heap.size + 1 + 1, 8, none⟩ (.int .i64 (h : Int))).setCell ⟨w.heap.size + 1 + 1, 9, none⟩ (.slice A n c)) = v2 at *
    obtain ⟨zf, r0, r1, r2, r3, r4, r5, r6, r7, r8, r9⟩ := free10 h10
    have Hb2 := Lib.hid (Hbw.out.grown hg10 Hbw.out.size (fun k hk => by injection hk with hk; omega))
    have HG10 := Lib.hid hg10
    clear h10 hg10
    refine bodyPost_ret (v := .tuple #[.agg #[.int .u8 (s.x0 : Int), .int .u8 (s.x1 : Int), .int .u8 (s.x2 : Int), .int .u8 (s.x3 : Int), .int .u8 (s.x4 : Int), .int .u8 (s.x5 : Int), .int .u8 (s.x6 : Int), .int .u8 (s.x7 : Int), .int .i64 (h : Int), (.slice A n c)], .int .i64 (i : Int), .int .i64 0]) (by simp [results, Tryz.results16, go_sem, r0, r1, r2, r3, r4, r5, r6, r7, r8, r9]) rfl ⟨A, n, c, by rw [Hres.out]; rfl, by rw [Hres.out]; exact (Hr0.out.below Hb2.out (Nat.le_refl _)).more Hb2.out.size, Hb2.out, .inl rfl⟩
  | none =>
    have Hi : Hid (leafI L m = -1) := Lib.hid (by unfold leafI; rw [hpos])
    rw [Hi.out]
    have Hpos := Lib.hid hpos
    clear hpos
    have hS : ∀ w', Below v1.heap.size v1 w' → w'.cell? ⟨w.heap.size, 9, none⟩ = some (.slice A n c) := fun w' hx => by
      have := block_below HS1.out hx (block_lt HS1.out)
      exact (block_cell this 9).trans rfl
    have hH : ∀ w', Below v1.heap.size v1 w' → w'.cell? ⟨w.heap.size, 8, none⟩ = some (.int .i64 (h : Int)) := fun w' hx => by
      have := block_below HS1.out hx (block_lt HS1.out)
      exact (block_cell this 8).trans rfl
    go_upto_region 4 with fail
    refine wp_region_held_drew (S := fun w' => Below v1.heap.size v1 w') (by kernel_rfl) ((Below.refl v1.heap.size v1).drew) (fun hHeld => ?_)
    rw [show Array.replicate _ false = (#[false, false, false, false, false, false, false] : Array Bool) from rfl]
    refine takeH 0 (some 15) (v := ?_) rfl (by kernel_rfl) (by kernel_rfl) (by kernel_rfl) (by kernel_rfl) (fun _ _ _ h => h) (Or.inl ⟨by kernel_rfl, ?hy⟩) (by assumption) ?_
    case hy =>
      intro w' hSw
      clear hSw
      first
        | (go_simp; done)
        | (go_simp; with_reducible rfl)
    simp only [Act.put, List.setIfInBounds_toArray, List.set_cons_zero, List.set_cons_succ]
    refine takeH 1 (some 16) (v := ?_) rfl (by kernel_rfl) (by kernel_rfl) (by kernel_rfl) (by kernel_rfl) (fun _ _ _ h => h) (Or.inl ⟨by kernel_rfl, ?hy⟩) (by assumption) ?_
    case hy =>
      intro w' hSw
      have hx := hS w' hSw
      clear hSw
      first
        | (go_simp; done)
        | (go_simp; with_reducible rfl)
    simp only [Act.put, List.setIfInBounds_toArray, List.set_cons_zero, List.set_cons_succ]
    refine takeH 2 (some 17) (v := ?_) rfl (by kernel_rfl) (by kernel_rfl) (by kernel_rfl) (by kernel_rfl) (fun _ _ _ h => h) (Or.inl ⟨by kernel_rfl, ?hy⟩) (by assumption) ?_
    case hy =>
      intro w' hSw
      clear hSw
      first
        | (go_simp; done)
        | (go_simp; with_reducible rfl)
    simp only [Act.put, List.setIfInBounds_toArray, List.set_cons_zero, List.set_cons_succ]
    refine takeH 3 (some 18) (v := ?_) rfl (by kernel_rfl) (by kernel_rfl) (by kernel_rfl) (by kernel_rfl) (fun _ _ _ h => h) (Or.inl ⟨by kernel_rfl, ?hy⟩) (by assumption) ?_
    case hy =>
      intro w' hSw
      clear hSw
      first
        | (go_simp; done)
        | (go_simp; with_reducible rfl)
    simp only [Act.put, List.setIfInBounds_toArray, List.set_cons_zero, List.set_cons_succ]
    refine takeH 4 (some 19) (v := ?_) rfl (by kernel_rfl) (by kernel_rfl) (by kernel_rfl) (by kernel_rfl) (fun _ _ _ h => h) (Or.inl ⟨by kernel_rfl, ?hy⟩) (by assumption) ?_
    case hy =>
      intro w' hSw
      have hx := hH w' hSw
      clear hSw
      first
        | (go_simp; done)
        | (go_simp; with_reducible rfl)
    simp only [Act.put, List.setIfInBounds_toArray, List.set_cons_zero, List.set_cons_succ]
    refine wpAnyH_ready (rs := [5]) (by kernel_rfl) (by simp) ?_
    refine AllReadyH.cons rfl (fun K hK => ?_) AllReadyH.nil
    rw [if_pos (by kernel_rfl)]
    go_simp
    refine (manyr_any h v1.drew hh).mono ?_
    rintro e v2 ⟨rfl, rfl⟩
    obtain ⟨N, hN⟩ : ∃ N, N = 2 ^ h := ⟨_, rfl⟩
    rw [← hN]
    have HN := Lib.hid hN
    clear hN
    refine hK.out _ _ (Below.refl v1.heap.size v1).drew (fun _ => ?_)
    clear hK K
    simp only [List.setIfInBounds_toArray, List.set_cons_zero, List.set_cons_succ]
    clear hS hH
    have hbd := (Below.refl v1.heap.size v1).drew
    have HS2 := Lib.hid (block_below HS1.out hbd (block_lt HS1.out)); have HM2 := Lib.hid (block_below HM1.out hbd (block_lt HM1.out)); have HX2 := Lib.hid (block_below HX1.out hbd (block_lt HX1.out)); have Hw2 := Lib.hid (Hw1.out.trans (hbd.mono Hw1.out.size))
    clear hbd HS1 HM1 HX1 Hw1 Hr1
    generalize v1.drew = v2 at *
    by_cases hfull : n = N
    · subst hfull
      have e1 : ((n : Int) == (n : Int)) = true := by simp
      have Hres : Hid ((RingM.mk s h L).reserve m = (⟨s, h, L⟩, 0, 17)) := Lib.hid (by
        unfold RingM.reserve
        simp only [Hpos.out]
        rw [if_pos (by rw [Hl.out, HN.out])])
      refine takeH 6 (some 21) (v := ?_) rfl (by kernel_rfl) (by kernel_rfl) (by kernel_rfl) (by kernel_rfl) (fun _ _ _ h => h) (Or.inl ⟨by kernel_rfl, ?hy⟩) (by assumption) ?_
      case hy =>
        intro w' hSw
        clear hSw
        first
          | (go_simp; done)
          | (go_simp; with_reducible rfl)
      simp only [Act.put, List.setIfInBounds_toArray, List.set_cons_zero, List.set_cons_succ]
      refine wpAnyH_done (by kernel_rfl) ?_ _
      obtain ⟨zf, r0, r1, r2, r3, r4, r5, r6, r7, r8, r9⟩ := free10 HS2.out
      obtain ⟨yf, x0, x1, x2, x3, x4, x5, x6, x7, x8, x9⟩ := free10 (s := D8.zero) (h := 0) HX2.out
      have hl0 := block_lt HS2.out; have hlx := block_lt HX2.out
      have HX := Lib.hid HX2.out; have Hbw := Lib.hid Hw2.out
      clear zf
      go_wp2
      clear yf x0 x1 x2 x3 x4 x5 x6 x7 x8 x9 r0 r1 r2 r3 r4 r5 r6 r7 r8 r9
      have h10 := set10 HX.out (.int .u8 (s.x0 : Int)) (.int .u8 (s.x1 : Int)) (.int .u8 (s.x2 : Int)) (.int .u8 (s.x3 : Int)) (.int .u8 (s.x4 : Int)) (.int .u8 (s.x5 : Int)) (.int .u8 (s.x6 : Int)) (.int .u8 (s.x7 : Int)) (.int .i64 (h : Int)) (.slice A n c)
      have hg10 := grown_set10 v2 (w.heap.size + 1 + 1) (.int .u8 (s.x0 : Int)) (.int .u8 (s.x1 : Int)) (.int .u8 (s.x2 : Int)) (.int .u8 (s.x3 : Int)) (.int .u8 (s.x4 : Int)) (.int .u8 (s.x5 : Int)) (.int .u8 (s.x6 : Int)) (.int .u8 (s.x7 : Int)) (.int .i64 (h : Int)) (.slice A n c)
      generalize ((((((((((v2.setCell ⟨w.heap.size + 1 + 1, 0, none⟩ (.int .u8 (s.x0 : Int))).setCell ⟨w.heap.size + 1 + 1, 1, none⟩ (.int .u8 (s.x1 : Int))).setCell ⟨w.heap.size + 1 + 1, 2, none⟩ (.int .u8 (s.x2 : Int))).setCell ⟨w.heap.size + 1 + 1, 3, none⟩ (.int .u8 (s.x3 : Int))).setCell ⟨w.heap.size + 1 + 1, 4, none⟩ (.int .u8 (s.x4 : Int))).setCell ⟨w.heap.size + 1 + 1, 5, none⟩ (.int .u8 (s.x5 : Int))).setCell ⟨w.heap.size + 1 + 1, 6, none⟩ (.int .u8 (s.x6 : Int))).setCell ⟨w.heap.size + 1 + 1, 7, none⟩ (.int .u8 (s.x7 : Int))).setCell ⟨w.heap.size + 1 + 1, 8, none⟩ (.int .i64 (h : Int))).setCell ⟨w.heap.size + 1 + 1, 9, none⟩ (.slice A n c)) = v3 at *
      obtain ⟨zf, r0, r1, r2, r3, r4, r5, r6, r7, r8, r9⟩ := free10 h10
      have Hb2 := Lib.hid (Hbw.out.grown hg10 Hbw.out.size (fun k hk => by injection hk with hk; omega))
      have HG10 := Lib.hid hg10
      clear h10 hg10
      refine bodyPost_ret (v := .tuple #[.agg #[.int .u8 (s.x0 : Int), .int .u8 (s.x1 : Int), .int .u8 (s.x2 : Int), .int .u8 (s.x3 : Int), .int .u8 (s.x4 : Int), .int .u8 (s.x5 : Int), .int .u8 (s.x6 : Int), .int .u8 (s.x7 : Int), .int .i64 (h : Int), (.slice A n c)], .int .i64 0, .int .i64 17]) (by simp [results, Tryz.results16, go_sem, r0, r1, r2, r3, r4, r5, r6, r7, r8, r9]) rfl ⟨A, n, c, by rw [Hres.out]; rfl, by rw [Hres.out]; exact (Hr0.out.below Hb2.out (Nat.le_refl _)).more Hb2.out.size, Hb2.out, .inl rfl⟩
    · have e1 : ((n : Int) == (N : Int)) = false := by simp; omega
      have e2 : decide ((n : Int) = (N : Int)) = false := decide_eq_false (by omega)
      have e3 : decide (n = N) = false := decide_eq_false hfull
      have Hres : Hid ((RingM.mk s h L).reserve m = (⟨s, h, L ++ [m]⟩, n, 0)) := Lib.hid (by
        unfold RingM.reserve
        simp only [Hpos.out]
        rw [if_neg (by rw [Hl.out, ← HN.out]; exact hfull), Hl.out])
      refine takeH 6 (some 21) (v := ?_) rfl (by kernel_rfl) (by kernel_rfl) (by kernel_rfl) (by kernel_rfl) (fun _ _ _ h => h) (Or.inl ⟨by kernel_rfl, ?hy⟩) (by assumption) ?_
      case hy =>
        intro w' hSw
        clear hSw
        first
          | (go_simp; done)
          | (go_simp; with_reducible rfl)
      simp only [Act.put, List.setIfInBounds_toArray, List.set_cons_zero, List.set_cons_succ]
      refine wpAnyH_done (by kernel_rfl) ?_ _
      go_upto_region 6 with fail
      obtain ⟨W, rfl⟩ : ∃ W : World, W = v2 := ⟨_, rfl⟩
      obtain ⟨bs, hbs⟩ : ∃ bs, bs = w.heap.size := ⟨_, rfl⟩
      obtain ⟨iI, hi, hz0, hz1, hz2⟩ := info_parts info_T8
      have HiI := Lib.hid (And.intro hi (And.intro hz0 (And.intro hz1 hz2))); clear hi hz0 hz1 hz2
      have HSB : Hid (W.heap[bs]? = some (.cells #[.int .u8 (s.x0 : Int), .int .u8 (s.x1 : Int), .int .u8 (s.x2 : Int), .int .u8 (s.x3 : Int), .int .u8 (s.x4 : Int), .int .u8 (s.x5 : Int), .int .u8 (s.x6 : Int), .int .u8 (s.x7 : Int), .int .i64 (h : Int), (.slice A n c)] 28 (0, 0))) := by rw [hbs]; exact HS2
      have HMB : Hid (W.heap[w.heap.size + 1]? = some (.cells #[.int .u8 (m.x0 : Int), .int .u8 (m.x1 : Int), .int .u8 (m.x2 : Int), .int .u8 (m.x3 : Int), .int .u8 (m.x4 : Int), .int .u8 (m.x5 : Int), .int .u8 (m.x6 : Int), .int .u8 (m.x7 : Int)] 22 (0, 0))) := HM2
      have HRL : Hid (Rd W W.heap.size 8 A n (flatD L)) := Lib.hid ((Hr0.out.below Hw2.out (Nat.le_refl _)).more Hw2.out.size)
      have HON : Hid (∀ u ∈ flatD L, u.oneCell' = true) := Lib.hid (flatD_one L)
      have Hbs := Lib.hid hbs
      have Hxs : Hid (∃ xs, xs = flatD L) := Lib.hid ⟨_, rfl⟩
      obtain ⟨xs, hxs⟩ := Hxs.out
      rw [← hxs] at HRL HON
      have Hxsl := Lib.hid hxs
      clear hbs hxs Hxs
      refine wp_region_inv0 (ResI W bs A n c xs m) [0, 1, 2, 3, 4, 5, 6, 7, 8] (by kernel_rfl) (by kernel_rfl) (by kernel_rfl) ?_ ?_ ?_
      · refine resI_mk ?q0 ?q1 ?q2 ?q3 ?q4 ?q5 ?q6 ?q7 ?h (fun _ => (Below.refl _ _).drew) ?wf ?c0 ?c1 ?c2 ?c3 ?c4 ?c5 ?c6 ?c7 ?d05 ?a8 ?a6 ?a2 ?a3 ?a5
        case h =>
          simp only [Act.put, List.setIfInBounds_toArray, List.set_cons_zero, List.set_cons_succ]
          rfl
        all_goals exact fun h => absurd (none_yet.symm.trans h) (by decide)
      · suffices hst : ∀ a0 : Act, a0.tmps.size = 36 → a0.eval (.tmp 2) = .pointer (some ⟨bs, 0, none⟩) → a0.eval (.tmp 3) = .pointer (some ⟨w.heap.size + 1, 0, none⟩) → StepsI _ _ _ (ResI W bs A n c xs m a0) [0, 1, 2, 3, 4, 5, 6, 7, 8] from hst _ rfl (by rw [Hbs.out]; rfl) rfl
        intro a0 hsz h2 h3
        refine StepsI.cons [] rfl (by kernel_rfl) ?_ ?_
        · intro L a x hp h0 hI K hK
          obtain ⟨q0, q1, q2, q3, q4, q5, q6, q7, ha, wd, wf, c0, c1, c2, c3, c4, c5, c6, c7, d05, a8, a6, a2, a3, a5⟩ := hI
          have h8 : L.getD 8 false = false := by
            cases hq : L.getD 8 false with
            | false => rfl
            | true => exact absurd ((a8 hq 0 (by decide)).symm.trans (yet h0)) (by decide)
          have hbW0 := wd h8
          have h6 : L.getD 6 false = false := by
            cases hq : L.getD 6 false with
            | false => rfl
            | true => exact absurd ((a6 hq 0 (by decide)).symm.trans (yet h0)) (by decide)
          refine step_empty iI 26 22 (by rfl) (by rfl) Tryz.underlying26 HiI.out.1 ?_
          have hb := (Below.refl x.heap.size x).alloc (Nat.le_refl _) (.cells #[] 22)
          have hbW := hbW0.trans (hb.mono hbW0.size)
          refine hK.out _ _ ?_
          refine (resI_mk (.slice (some ⟨x.heap.size, 0, none⟩) 0 0) q1 q2 q3 q4 q5 q6 q7 ?_ ?_ ?_ ?_ ?_ ?_ ?_ ?_ ?_ ?_ ?_ ?_ ?_ ?_ ?_ ?_ ?_)
          · rw [ha]; show Act.put _ (some 23) _ = _; rw [put_comm 30 23 (by decide), put_comm 29 23 (by decide), put_comm 28 23 (by decide), put_comm 27 23 (by decide), put_comm 26 23 (by decide), put_comm 25 23 (by decide), put_comm 24 23 (by decide), put_same 23]
          · exact fun h => hbW
          · exact fun h => absurd ((set_ne (by decide)).symm.trans h) (by rw [h8]; decide)
          · exact fun _ _ => own_emptyD x 22 8 W.heap.size hbW0.size
          · exact fun h => c1 (listed_ne h (by decide))
          · exact fun h => c2 (listed_ne h (by decide))
          · exact fun h h' => own_below (c3 (listed_ne h (by decide)) ((set_ne (by decide)).symm.trans h')) hb
          · exact fun h => c4 (listed_ne h (by decide))
          · exact fun h h' => (let ⟨g, e, hg⟩ := c5 (listed_ne h (by decide)) ((set_ne (by decide)).symm.trans h'); ⟨g, e, block_below hg hb (block_lt hg)⟩)
          · exact fun h _ => absurd ((set_ne (by decide)).symm.trans h) (by rw [h6]; decide)
          · exact fun h => c7 (listed_ne h (by decide))
          · exact fun _ h' h'' g hg => (by
            obtain ⟨g5, e5, hg5⟩ := c5 (listed_ne h' (by decide)) h6
            have := block_lt hg5
            simp only [Value.ownBlock, Option.some.injEq] at hg
            subst hg
            rw [e5]
            simp only [Value.ownBlock, ne_eq, Option.some.injEq]
            omega)
          · exact fun h => absurd ((set_ne (by decide)).symm.trans h) (by rw [h8]; decide)
          · exact fun h => absurd ((set_ne (by decide)).symm.trans h) (by rw [h6]; decide)
          · exact fun h => listed_in (a2 (listed_ne h (by decide)))
          · exact fun h => (let ⟨x0, x1, x2⟩ := a3 (listed_ne h (by decide)); ⟨listed_in x0, listed_in x1, listed_in x2⟩)
          · exact fun h => listed_in (a5 (listed_ne h (by decide)))
        refine StepsI.cons [] rfl (by kernel_rfl) ?_ ?_
        · intro L a x hp h0 hI K hK
          obtain ⟨q0, q1, q2, q3, q4, q5, q6, q7, ha, wd, wf, c0, c1, c2, c3, c4, c5, c6, c7, d05, a8, a6, a2, a3, a5⟩ := hI
          have h8 : L.getD 8 false = false := by
            cases hq : L.getD 8 false with
            | false => rfl
            | true => exact absurd ((a8 hq 1 (by decide)).symm.trans (yet h0)) (by decide)
          have hbW0 := wd h8
          have h6 : L.getD 6 false = false := by
            cases hq : L.getD 6 false with
            | false => rfl
            | true => exact absurd ((a6 hq 1 (by decide)).symm.trans (yet h0)) (by decide)
          refine step_pure (.pointer (some ⟨bs, 9, none⟩)) (by rfl) (exec_field (by rfl) (by rw [ha, ev_ne 30 2 (by decide), ev_ne 29 2 (by decide), ev_ne 28 2 (by decide), ev_ne 27 2 (by decide), ev_ne 26 2 (by decide), ev_ne 25 2 (by decide), ev_ne 24 2 (by decide), ev_ne 23 2 (by decide), h2]) (by kernel_rfl)) ?_
          have hbW := hbW0
          refine hK.out _ _ ?_
          refine (resI_mk q0 (.pointer (some ⟨bs, 9, none⟩)) q2 q3 q4 q5 q6 q7 ?_ ?_ ?_ ?_ ?_ ?_ ?_ ?_ ?_ ?_ ?_ ?_ ?_ ?_ ?_ ?_ ?_)
          · rw [ha]; show Act.put _ (some 24) _ = _; rw [put_comm 30 24 (by decide), put_comm 29 24 (by decide), put_comm 28 24 (by decide), put_comm 27 24 (by decide), put_comm 26 24 (by decide), put_comm 25 24 (by decide), put_same 24]
          · exact fun h => hbW
          · exact fun h => absurd ((set_ne (by decide)).symm.trans h) (by rw [h8]; decide)
          · exact fun h h' => c0 (listed_ne h (by decide)) ((set_ne (by decide)).symm.trans h')
          · exact fun _ => rfl
          · exact fun h => c2 (listed_ne h (by decide))
          · exact fun h h' => c3 (listed_ne h (by decide)) ((set_ne (by decide)).symm.trans h')
          · exact fun h => c4 (listed_ne h (by decide))
          · exact fun h h' => c5 (listed_ne h (by decide)) ((set_ne (by decide)).symm.trans h')
          · exact fun h _ => absurd ((set_ne (by decide)).symm.trans h) (by rw [h6]; decide)
          · exact fun h => c7 (listed_ne h (by decide))
          · exact fun h h' h'' => d05 (listed_ne h (by decide)) (listed_ne h' (by decide)) ((set_ne (by decide)).symm.trans h'')
          · exact fun h => absurd ((set_ne (by decide)).symm.trans h) (by rw [h8]; decide)
          · exact fun h => absurd ((set_ne (by decide)).symm.trans h) (by rw [h6]; decide)
          · exact fun h => listed_in (a2 (listed_ne h (by decide)))
          · exact fun h => (let ⟨x0, x1, x2⟩ := a3 (listed_ne h (by decide)); ⟨listed_in x0, listed_in x1, listed_in x2⟩)
          · exact fun h => listed_in (a5 (listed_ne h (by decide)))
        refine StepsI.cons [1] rfl (by kernel_rfl) ?_ ?_
        · intro L a x hp h0 hI K hK
          obtain ⟨q0, q1, q2, q3, q4, q5, q6, q7, ha, wd, wf, c0, c1, c2, c3, c4, c5, c6, c7, d05, a8, a6, a2, a3, a5⟩ := hI
          have h8 : L.getD 8 false = false := by
            cases hq : L.getD 8 false with
            | false => rfl
            | true => exact absurd ((a8 hq 2 (by decide)).symm.trans (yet h0)) (by decide)
          have hbW0 := wd h8
          have h6 : L.getD 6 false = false := by
            cases hq : L.getD 6 false with
            | false => rfl
            | true => exact absurd ((a6 hq 2 (by decide)).symm.trans (yet h0)) (by decide)
          have ev := c1 (hp 1 (by decide))
          have hc9 : x.cell? ⟨bs, 9, none⟩ = some (.slice A n c) := (block_cell (block_below HSB.out hbW0 (block_lt HSB.out)) 9).trans rfl
          refine step_pure (.slice A n c) (by rfl) (exec_load (by rfl) (by rw [ha, ev_ne 30 24 (by decide), ev_ne 29 24 (by decide), ev_ne 28 24 (by decide), ev_ne 27 24 (by decide), ev_ne 26 24 (by decide), ev_ne 25 24 (by decide), ev_at 24 (by simp only [put_size, hsz]; decide)]; exact ev) (load_sl hc9)) ?_
          have hbW := hbW0
          refine hK.out _ _ ?_
          refine (resI_mk q0 q1 (.slice A n c) q3 q4 q5 q6 q7 ?_ ?_ ?_ ?_ ?_ ?_ ?_ ?_ ?_ ?_ ?_ ?_ ?_ ?_ ?_ ?_ ?_)
          · rw [ha]; show Act.put _ (some 25) _ = _; rw [put_comm 30 25 (by decide), put_comm 29 25 (by decide), put_comm 28 25 (by decide), put_comm 27 25 (by decide), put_comm 26 25 (by decide), put_same 25]
          · exact fun h => hbW
          · exact fun h => absurd ((set_ne (by decide)).symm.trans h) (by rw [h8]; decide)
          · exact fun h h' => c0 (listed_ne h (by decide)) ((set_ne (by decide)).symm.trans h')
          · exact fun h => c1 (listed_ne h (by decide))
          · exact fun _ => rfl
          · exact fun h h' => c3 (listed_ne h (by decide)) ((set_ne (by decide)).symm.trans h')
          · exact fun h => c4 (listed_ne h (by decide))
          · exact fun h h' => c5 (listed_ne h (by decide)) ((set_ne (by decide)).symm.trans h')
          · exact fun h _ => absurd ((set_ne (by decide)).symm.trans h) (by rw [h6]; decide)
          · exact fun h => c7 (listed_ne h (by decide))
          · exact fun h h' h'' => d05 (listed_ne h (by decide)) (listed_ne h' (by decide)) ((set_ne (by decide)).symm.trans h'')
          · exact fun h => absurd ((set_ne (by decide)).symm.trans h) (by rw [h8]; decide)
          · exact fun h => absurd ((set_ne (by decide)).symm.trans h) (by rw [h6]; decide)
          · exact fun _ => listed_in (hp 1 (by decide))
          · exact fun h => (let ⟨x0, x1, x2⟩ := a3 (listed_ne h (by decide)); ⟨listed_in x0, listed_in x1, listed_in x2⟩)
          · exact fun h => listed_in (a5 (listed_ne h (by decide)))
        refine StepsI.cons [0, 2] rfl (by kernel_rfl) ?_ ?_
        · intro L a x hp h0 hI K hK
          obtain ⟨q0, q1, q2, q3, q4, q5, q6, q7, ha, wd, wf, c0, c1, c2, c3, c4, c5, c6, c7, d05, a8, a6, a2, a3, a5⟩ := hI
          have h8 : L.getD 8 false = false := by
            cases hq : L.getD 8 false with
            | false => rfl
            | true => exact absurd ((a8 hq 3 (by decide)).symm.trans (yet h0)) (by decide)
          have hbW0 := wd h8
          have h6 : L.getD 6 false = false := by
            cases hq : L.getD 6 false with
            | false => rfl
            | true => exact absurd ((a6 hq 3 (by decide)).symm.trans (yet h0)) (by decide)
          have e2 := c2 (hp 2 (by decide))
          have hown := c0 (hp 0 (by decide)) (yet h0)
          have hrd := (HRL.out.below hbW0 (Nat.le_refl _)).more hbW0.size
          refine step_append_any x (by rfl) (.tmp 23) (.tmp 25) 26 (by rfl) W.heap.size 22 iI (.agg #[.int .u8 0, .int .u8 0, .int .u8 0, .int .u8 0, .int .u8 0, .int .u8 0, .int .u8 0, .int .u8 0]) 8 8 Tryz.underlying26 HiI.out rfl (by decide) q0 0 [] (by rw [ha, ev_ne 30 23 (by decide), ev_ne 29 23 (by decide), ev_ne 28 23 (by decide), ev_ne 27 23 (by decide), ev_ne 26 23 (by decide), ev_ne 25 23 (by decide), ev_ne 24 23 (by decide), ev_at 23 (by simp only [hsz]; decide)]) hown x.heap.size A n c xs (by rw [ha, ev_ne 30 25 (by decide), ev_ne 29 25 (by decide), ev_ne 28 25 (by decide), ev_ne 27 25 (by decide), ev_ne 26 25 (by decide), ev_at 25 (by simp only [put_size, hsz]; decide)]; exact e2) hrd HON.out (by omega) (by omega) hbW0.size ?_
          intro t' x' ho' hg' hw'
          rw [Nat.zero_add, List.nil_append] at ho'
          have hbW := hbW0.grown hg' hbW0.size (fun k hk => (hown.lt k hk).1)
          refine hK.out _ _ ?_
          refine (resI_mk q0 q1 q2 t' q4 q5 q6 q7 ?_ ?_ ?_ ?_ ?_ ?_ ?_ ?_ ?_ ?_ ?_ ?_ ?_ ?_ ?_ ?_ ?_)
          · rw [ha]; show Act.put _ (some 26) _ = _; rw [put_comm 30 26 (by decide), put_comm 29 26 (by decide), put_comm 28 26 (by decide), put_comm 27 26 (by decide), put_same 26]
          · exact fun h => hbW
          · exact fun h => absurd ((set_ne (by decide)).symm.trans h) (by rw [h8]; decide)
          · exact fun _ h' => absurd ((set_at h0).symm.trans h') (by decide)
          · exact fun h => c1 (listed_ne h (by decide))
          · exact fun h => c2 (listed_ne h (by decide))
          · exact fun _ _ => ho'
          · exact fun h => c4 (listed_ne h (by decide))
          · exact fun h h' => (let ⟨g, e, hg⟩ := c5 (listed_ne h (by decide)) ((set_ne (by decide)).symm.trans h'); ⟨g, e, block_grown hg hg' (fun e2 => d05 (hp 0 (by decide)) (listed_ne h (by decide)) (yet h0) g e2.symm (by rw [e]; rfl))⟩)
          · exact fun h _ => absurd ((set_ne (by decide)).symm.trans h) (by rw [h6]; decide)
          · exact fun h => c7 (listed_ne h (by decide))
          · exact fun _ _ h'' => absurd ((set_at h0).symm.trans h'') (by decide)
          · exact fun h => absurd ((set_ne (by decide)).symm.trans h) (by rw [h8]; decide)
          · exact fun h => absurd ((set_ne (by decide)).symm.trans h) (by rw [h6]; decide)
          · exact fun h => listed_in (a2 (listed_ne h (by decide)))
          · exact fun _ => ⟨listed_in (hp 0 (by decide)), listed_in (a2 (hp 2 (by decide))), listed_in (hp 2 (by decide))⟩
          · exact fun h => listed_in (a5 (listed_ne h (by decide)))
        refine StepsI.cons [] rfl (by kernel_rfl) ?_ ?_
        · intro L a x hp h0 hI K hK
          obtain ⟨q0, q1, q2, q3, q4, q5, q6, q7, ha, wd, wf, c0, c1, c2, c3, c4, c5, c6, c7, d05, a8, a6, a2, a3, a5⟩ := hI
          have h8 : L.getD 8 false = false := by
            cases hq : L.getD 8 false with
            | false => rfl
            | true => exact absurd ((a8 hq 4 (by decide)).symm.trans (yet h0)) (by decide)
          have hbW0 := wd h8
          have h6 : L.getD 6 false = false := by
            cases hq : L.getD 6 false with
            | false => rfl
            | true => exact absurd ((a6 hq 4 (by decide)).symm.trans (yet h0)) (by decide)
          refine step_pure (.agg #[.int .u8 (m.x0 : Int), .int .u8 (m.x1 : Int), .int .u8 (m.x2 : Int), .int .u8 (m.x3 : Int), .int .u8 (m.x4 : Int), .int .u8 (m.x5 : Int), .int .u8 (m.x6 : Int), .int .u8 (m.x7 : Int)]) (by rfl) (exec_load (by rfl) (by rw [ha, ev_ne 30 3 (by decide), ev_ne 29 3 (by decide), ev_ne 28 3 (by decide), ev_ne 27 3 (by decide), ev_ne 26 3 (by decide), ev_ne 25 3 (by decide), ev_ne 24 3 (by decide), ev_ne 23 3 (by decide), h3]) (load_d8 (block_below HMB.out hbW0 (block_lt HMB.out)))) ?_
          have hbW := hbW0
          refine hK.out _ _ ?_
          refine (resI_mk q0 q1 q2 q3 (.agg #[.int .u8 (m.x0 : Int), .int .u8 (m.x1 : Int), .int .u8 (m.x2 : Int), .int .u8 (m.x3 : Int), .int .u8 (m.x4 : Int), .int .u8 (m.x5 : Int), .int .u8 (m.x6 : Int), .int .u8 (m.x7 : Int)]) q5 q6 q7 ?_ ?_ ?_ ?_ ?_ ?_ ?_ ?_ ?_ ?_ ?_ ?_ ?_ ?_ ?_ ?_ ?_)
          · rw [ha]; show Act.put _ (some 27) _ = _; rw [put_comm 30 27 (by decide), put_comm 29 27 (by decide), put_comm 28 27 (by decide), put_same 27]
          · exact fun h => hbW
          · exact fun h => absurd ((set_ne (by decide)).symm.trans h) (by rw [h8]; decide)
          · exact fun h h' => c0 (listed_ne h (by decide)) ((set_ne (by decide)).symm.trans h')
          · exact fun h => c1 (listed_ne h (by decide))
          · exact fun h => c2 (listed_ne h (by decide))
          · exact fun h h' => c3 (listed_ne h (by decide)) ((set_ne (by decide)).symm.trans h')
          · exact fun _ => rfl
          · exact fun h h' => c5 (listed_ne h (by decide)) ((set_ne (by decide)).symm.trans h')
          · exact fun h _ => absurd ((set_ne (by decide)).symm.trans h) (by rw [h6]; decide)
          · exact fun h => c7 (listed_ne h (by decide))
          · exact fun h h' h'' => d05 (listed_ne h (by decide)) (listed_ne h' (by decide)) ((set_ne (by decide)).symm.trans h'')
          · exact fun h => absurd ((set_ne (by decide)).symm.trans h) (by rw [h8]; decide)
          · exact fun h => absurd ((set_ne (by decide)).symm.trans h) (by rw [h6]; decide)
          · exact fun h => listed_in (a2 (listed_ne h (by decide)))
          · exact fun h => (let ⟨x0, x1, x2⟩ := a3 (listed_ne h (by decide)); ⟨listed_in x0, listed_in x1, listed_in x2⟩)
          · exact fun h => listed_in (a5 (listed_ne h (by decide)))
        refine StepsI.cons [4] rfl (by kernel_rfl) ?_ ?_
        · intro L a x hp h0 hI K hK
          obtain ⟨q0, q1, q2, q3, q4, q5, q6, q7, ha, wd, wf, c0, c1, c2, c3, c4, c5, c6, c7, d05, a8, a6, a2, a3, a5⟩ := hI
          have h8 : L.getD 8 false = false := by
            cases hq : L.getD 8 false with
            | false => rfl
            | true => exact absurd ((a8 hq 5 (by decide)).symm.trans (yet h0)) (by decide)
          have hbW0 := wd h8
          have h6 : L.getD 6 false = false := by
            cases hq : L.getD 6 false with
            | false => rfl
            | true => exact absurd ((a6 hq 5 (by decide)).symm.trans (yet h0)) (by decide)
          have ev := c4 (hp 4 (by decide))
          refine step_box (.agg #[.int .u8 (m.x0 : Int), .int .u8 (m.x1 : Int), .int .u8 (m.x2 : Int), .int .u8 (m.x3 : Int), .int .u8 (m.x4 : Int), .int .u8 (m.x5 : Int), .int .u8 (m.x6 : Int), .int .u8 (m.x7 : Int)]) m.cells.toArray iI (.agg #[.int .u8 0, .int .u8 0, .int .u8 0, .int .u8 0, .int .u8 0, .int .u8 0, .int .u8 0, .int .u8 0]) 8 26 22 _ (by rfl) (by rfl) Tryz.underlying26 ⟨HiI.out.1, HiI.out.2.1, HiI.out.2.2.1⟩ (by rw [ha, ev_ne 30 27 (by decide), ev_ne 29 27 (by decide), ev_ne 28 27 (by decide), ev_at 27 (by simp only [put_size, hsz]; decide)]; exact ev) (by decide) (by decide) rfl rfl ?_
          have hb := (Below.refl x.heap.size x).alloc (Nat.le_refl _) (.cells m.cells.toArray 22)
          have hbW := hbW0.trans (hb.mono hbW0.size)
          refine hK.out _ _ ?_
          refine (resI_mk q0 q1 q2 q3 q4 (.slice (some ⟨x.heap.size, 0, none⟩) 1 1) q6 q7 ?_ ?_ ?_ ?_ ?_ ?_ ?_ ?_ ?_ ?_ ?_ ?_ ?_ ?_ ?_ ?_ ?_)
          · rw [ha]; show Act.put _ (some 28) _ = _; rw [put_comm 30 28 (by decide), put_comm 29 28 (by decide), put_same 28]
          · exact fun h => hbW
          · exact fun h => absurd ((set_ne (by decide)).symm.trans h) (by rw [h8]; decide)
          · exact fun h h' => own_below (c0 (listed_ne h (by decide)) ((set_ne (by decide)).symm.trans h')) hb
          · exact fun h => c1 (listed_ne h (by decide))
          · exact fun h => c2 (listed_ne h (by decide))
          · exact fun h h' => own_below (c3 (listed_ne h (by decide)) ((set_ne (by decide)).symm.trans h')) hb
          · exact fun h => c4 (listed_ne h (by decide))
          · exact fun _ _ => ⟨x.heap.size, rfl, heap_alloc_new x _⟩
          · exact fun h _ => absurd ((set_ne (by decide)).symm.trans h) (by rw [h6]; decide)
          · exact fun h => c7 (listed_ne h (by decide))
          · exact fun h _ h'' g hg => (by
            have := ((c0 (listed_ne h (by decide)) ((set_ne (by decide)).symm.trans h'')).lt g hg).2
            simp only [Value.ownBlock, ne_eq, Option.some.injEq]
            omega)
          · exact fun h => absurd ((set_ne (by decide)).symm.trans h) (by rw [h8]; decide)
          · exact fun h => absurd ((set_ne (by decide)).symm.trans h) (by rw [h6]; decide)
          · exact fun h => listed_in (a2 (listed_ne h (by decide)))
          · exact fun h => (let ⟨x0, x1, x2⟩ := a3 (listed_ne h (by decide)); ⟨listed_in x0, listed_in x1, listed_in x2⟩)
          · exact fun _ => listed_in (hp 4 (by decide))
        refine StepsI.cons [3, 5, 3] rfl (by kernel_rfl) ?_ ?_
        · intro L a x hp h0 hI K hK
          obtain ⟨q0, q1, q2, q3, q4, q5, q6, q7, ha, wd, wf, c0, c1, c2, c3, c4, c5, c6, c7, d05, a8, a6, a2, a3, a5⟩ := hI
          have h8 : L.getD 8 false = false := by
            cases hq : L.getD 8 false with
            | false => rfl
            | true => exact absurd ((a8 hq 6 (by decide)).symm.trans (yet h0)) (by decide)
          have hbW0 := wd h8
          obtain ⟨g, e5, hg5⟩ := c5 (hp 5 (by decide)) (yet h0)
          have hown := c3 (hp 3 (by decide)) (yet h0)
          have hrd : Rd x x.heap.size 8 (some ⟨g, 0, none⟩) 1 m.cells := ⟨rfl, fun _ => ⟨g, 0, rfl, block_lt hg5, fun j u hu => by rw [block_cell hg5]; simpa using hu⟩⟩
          refine step_append_any x (by rfl) (.tmp 26) (.tmp 28) 26 (by rfl) W.heap.size 22 iI (.agg #[.int .u8 0, .int .u8 0, .int .u8 0, .int .u8 0, .int .u8 0, .int .u8 0, .int .u8 0, .int .u8 0]) 8 8 Tryz.underlying26 HiI.out rfl (by decide) q3 n xs (by rw [ha, ev_ne 30 26 (by decide), ev_ne 29 26 (by decide), ev_ne 28 26 (by decide), ev_ne 27 26 (by decide), ev_at 26 (by simp only [put_size, hsz]; decide)]) hown x.heap.size (some ⟨g, 0, none⟩) 1 1 m.cells (by rw [ha, ev_ne 30 28 (by decide), ev_ne 29 28 (by decide), ev_at 28 (by simp only [put_size, hsz]; decide)]; exact e5) hrd (by simp [D8.cells, Value.oneCell']) (by omega) (by omega) hbW0.size ?_
          intro t' x' ho' hg' hw'
          have hbW := hbW0.grown hg' hbW0.size (fun k hk => (hown.lt k hk).1)
          refine hK.out _ _ ?_
          refine (resI_mk q0 q1 q2 q3 q4 q5 t' q7 ?_ ?_ ?_ ?_ ?_ ?_ ?_ ?_ ?_ ?_ ?_ ?_ ?_ ?_ ?_ ?_ ?_)
          · rw [ha]; show Act.put _ (some 29) _ = _; rw [put_comm 30 29 (by decide), put_same 29]
          · exact fun h => hbW
          · exact fun h => absurd ((set_ne (by decide)).symm.trans h) (by rw [h8]; decide)
          · exact fun _ h' => absurd ((hp 3 (by decide)).symm.trans ((set_ne (by decide)).symm.trans h')) (by decide)
          · exact fun h => c1 (listed_ne h (by decide))
          · exact fun h => c2 (listed_ne h (by decide))
          · exact fun _ h' => absurd ((set_at h0).symm.trans h') (by decide)
          · exact fun h => c4 (listed_ne h (by decide))
          · exact fun _ h' => absurd ((set_at h0).symm.trans h') (by decide)
          · exact fun _ _ => ho'
          · exact fun h => c7 (listed_ne h (by decide))
          · exact fun _ _ h'' => absurd ((hp 3 (by decide)).symm.trans ((set_ne (by decide)).symm.trans h'')) (by decide)
          · exact fun h => absurd ((set_ne (by decide)).symm.trans h) (by rw [h8]; decide)
          · exact fun _ j hj => listed_in (by
            have hj6 : j = 0 ∨ j = 1 ∨ j = 2 ∨ j = 3 ∨ j = 4 ∨ j = 5 := by omega
            obtain ⟨k0, k1, k2⟩ := a3 (hp 3 (by decide))
            have k4 := a5 (hp 5 (by decide))
            have k3 := hp 3 (by decide)
            have k5 := hp 5 (by decide)
            rcases hj6 with rfl | rfl | rfl | rfl | rfl | rfl <;> assumption)
          · exact fun h => listed_in (a2 (listed_ne h (by decide)))
          · exact fun h => (let ⟨x0, x1, x2⟩ := a3 (listed_ne h (by decide)); ⟨listed_in x0, listed_in x1, listed_in x2⟩)
          · exact fun h => listed_in (a5 (listed_ne h (by decide)))
        refine StepsI.cons [0, 1, 2, 3, 4, 5, 6] rfl (by kernel_rfl) ?_ ?_
        · intro L a x hp h0 hI K hK
          obtain ⟨q0, q1, q2, q3, q4, q5, q6, q7, ha, wd, wf, c0, c1, c2, c3, c4, c5, c6, c7, d05, a8, a6, a2, a3, a5⟩ := hI
          have h8 : L.getD 8 false = false := by
            cases hq : L.getD 8 false with
            | false => rfl
            | true => exact absurd ((a8 hq 7 (by decide)).symm.trans (yet h0)) (by decide)
          have hbW0 := wd h8
          refine step_pure (.pointer (some ⟨bs, 9, none⟩)) (by rfl) (exec_field (by rfl) (by rw [ha, ev_ne 30 2 (by decide), ev_ne 29 2 (by decide), ev_ne 28 2 (by decide), ev_ne 27 2 (by decide), ev_ne 26 2 (by decide), ev_ne 25 2 (by decide), ev_ne 24 2 (by decide), ev_ne 23 2 (by decide), h2]) (by kernel_rfl)) ?_
          have hbW := hbW0
          refine hK.out _ _ ?_
          refine (resI_mk q0 q1 q2 q3 q4 q5 q6 (.pointer (some ⟨bs, 9, none⟩)) ?_ ?_ ?_ ?_ ?_ ?_ ?_ ?_ ?_ ?_ ?_ ?_ ?_ ?_ ?_ ?_ ?_)
          · rw [ha]; show Act.put _ (some 30) _ = _; rw [put_same 30]
          · exact fun h => hbW
          · exact fun h => absurd ((set_ne (by decide)).symm.trans h) (by rw [h8]; decide)
          · exact fun h h' => c0 (listed_ne h (by decide)) ((set_ne (by decide)).symm.trans h')
          · exact fun h => c1 (listed_ne h (by decide))
          · exact fun h => c2 (listed_ne h (by decide))
          · exact fun h h' => c3 (listed_ne h (by decide)) ((set_ne (by decide)).symm.trans h')
          · exact fun h => c4 (listed_ne h (by decide))
          · exact fun h h' => c5 (listed_ne h (by decide)) ((set_ne (by decide)).symm.trans h')
          · exact fun h h' => c6 (listed_ne h (by decide)) ((set_ne (by decide)).symm.trans h')
          · exact fun _ => rfl
          · exact fun h h' h'' => d05 (listed_ne h (by decide)) (listed_ne h' (by decide)) ((set_ne (by decide)).symm.trans h'')
          · exact fun h => absurd ((set_ne (by decide)).symm.trans h) (by rw [h8]; decide)
          · exact fun h j hj => listed_in (a6 (listed_ne h (by decide)) j hj)
          · exact fun h => listed_in (a2 (listed_ne h (by decide)))
          · exact fun h => (let ⟨x0, x1, x2⟩ := a3 (listed_ne h (by decide)); ⟨listed_in x0, listed_in x1, listed_in x2⟩)
          · exact fun h => listed_in (a5 (listed_ne h (by decide)))
        refine StepsI.cons [7, 6, 6, 0, 1, 2, 3, 4, 5, 6] rfl (by kernel_rfl) ?_ ?_
        · intro L a x hp h0 hI K hK
          obtain ⟨q0, q1, q2, q3, q4, q5, q6, q7, ha, wd, wf, c0, c1, c2, c3, c4, c5, c6, c7, d05, a8, a6, a2, a3, a5⟩ := hI
          have hbW0 := wd (yet h0)
          have e7 := c7 (hp 7 (by decide))
          have hown := c6 (hp 6 (by decide)) (yet h0)
          have hc9 : x.cell? ⟨bs, 9, none⟩ = some (.slice A n c) := (block_cell (block_below HSB.out hbW0 (block_lt HSB.out)) 9).trans rfl
          have hf9 := block_free (block_below HSB.out hbW0 (block_lt HSB.out)) 9
          refine step_store (x.setCell ⟨bs, 9, none⟩ q6) (by rfl) (by rfl) (by rw [ha, ev_at 30 (by simp only [put_size, hsz]; decide)]; exact e7) (by rw [ha, ev_ne 30 29 (by decide), ev_at 29 (by simp only [put_size, hsz]; decide)]) (store_sl hown hc9 hf9) ?_
          refine hK.out _ _ ?_
          refine (resI_mk q0 q1 q2 q3 q4 q5 q6 q7 ?_ ?_ ?_ ?_ ?_ ?_ ?_ ?_ ?_ ?_ ?_ ?_ ?_ ?_ ?_ ?_ ?_)
          · exact ha
          · exact fun h => absurd ((set_at h0).symm.trans h) (by decide)
          · exact fun _ => ⟨x, q6, hbW0, hown, rfl⟩
          · exact fun _ h' => absurd ((hp 3 (by decide)).symm.trans ((set_ne (by decide)).symm.trans h')) (by decide)
          · exact fun h => c1 (listed_ne h (by decide))
          · exact fun h => c2 (listed_ne h (by decide))
          · exact fun _ h' => absurd ((hp 6 (by decide)).symm.trans ((set_ne (by decide)).symm.trans h')) (by decide)
          · exact fun h => c4 (listed_ne h (by decide))
          · exact fun _ h' => absurd ((hp 6 (by decide)).symm.trans ((set_ne (by decide)).symm.trans h')) (by decide)
          · exact fun _ h' => absurd ((set_at h0).symm.trans h') (by decide)
          · exact fun h => c7 (listed_ne h (by decide))
          · exact fun _ _ h'' => absurd ((hp 3 (by decide)).symm.trans ((set_ne (by decide)).symm.trans h'')) (by decide)
          · exact fun _ j hj => listed_in (by
            have : j = 0 ∨ j = 1 ∨ j = 2 ∨ j = 3 ∨ j = 4 ∨ j = 5 ∨ j = 6 ∨ j = 7 := by omega
            rcases this with rfl | rfl | rfl | rfl | rfl | rfl | rfl | rfl <;> exact hp _ (by decide))
          · exact fun h j hj => listed_in (a6 (listed_ne h (by decide)) j hj)
          · exact fun h => listed_in (a2 (listed_ne h (by decide)))
          · exact fun h => (let ⟨x0, x1, x2⟩ := a3 (listed_ne h (by decide)); ⟨listed_in x0, listed_in x1, listed_in x2⟩)
          · exact fun h => listed_in (a5 (listed_ne h (by decide)))
        exact StepsI.nil
      · intro LL b x hp hI
        obtain ⟨q0, q1, q2, q3, q4, q5, q6, q7, ha, -, wf, -, -, -, -, -, -, -, -, -, -, -, -, -, -⟩ := hI
        obtain ⟨u, v, hbu, hov, rfl⟩ := wf (hp 8 (by decide))
        obtain ⟨A', c', rfl⟩ := own_form hov
        have hbsl := block_lt HSB.out
        have hg := grown_set1 u bs 9 (.slice A' (n + 1) c')
        have h3 := Joins.block_setCell (i := 9) (block_below HSB.out hbu hbsl) (.slice A' (n + 1) c')
        have HS3 : Hid ((u.setCell ⟨bs, 9, none⟩ (.slice A' (n + 1) c')).heap[w.heap.size]? = some (.cells #[.int .u8 (s.x0 : Int), .int .u8 (s.x1 : Int), .int .u8 (s.x2 : Int), .int .u8 (s.x3 : Int), .int .u8 (s.x4 : Int), .int .u8 (s.x5 : Int), .int .u8 (s.x6 : Int), .int .u8 (s.x7 : Int), .int .i64 (h : Int), (.slice A' (n + 1) c')] 28 (0, 0))) := by
          show _ = _
          rw [← Hbs.out]
          simpa using h3
        have hbs := Hbs.out
        have HWl := Lib.hid (block_lt HX2.out)
        have HX3 := Lib.hid ((hg.block _ (Nat.lt_of_lt_of_le (block_lt HX2.out) hbu.size) (by intro e; injection e with e; omega)).trans (block_below HX2.out hbu (block_lt HX2.out)))
        have Hw3 := Lib.hid ((Hw2.out.trans (hbu.mono Hw2.out.size)).grown hg (Nat.le_trans Hw2.out.size hbu.size) (fun k hk => by injection hk with hk; omega))
        have HO3 := Lib.hid (own_keep hov (fun g2 hg2 => hg.block g2 (hov.lt g2 hg2).2 (by intro e; injection e with e; have := (hov.lt g2 hg2).1; omega)))
        simp only [ha, Act.put, List.setIfInBounds_toArray, List.set_cons_zero, List.set_cons_succ]
        clear ha wf hp hov hbu hg h3 hbsl HSB HMB HRL HON HX2 HS2 HM2 Hw2
        generalize u.setCell ⟨bs, 9, none⟩ (.slice A' (n + 1) c') = u2 at *
        have hw1 : wrap64 (((n + 1 : Nat) : Int) - 1) = (n : Int) := by simp only [wrap64]; omega
        have hw2 : wrap64 ((n : Int) + 1 - 1) = (n : Int) := by simp only [wrap64]; omega
        have hw3 : IntKind.i64.wrap (((n + 1 : Nat) : Int) - 1) = (n : Int) := by rw [IntKind.wrap_i64]; omega
        have hw4 : IntKind.i64.wrap ((n : Int) + 1 - 1) = (n : Int) := by rw [IntKind.wrap_i64]; omega
        have hw5 : (n : Int) + 1 - 1 = (n : Int) := by omega
        obtain ⟨zf, r0, r1, r2, r3, r4, r5, r6, r7, r8, r9⟩ := free10 HS3.out
        obtain ⟨yf, x0, x1, x2, x3, x4, x5, x6, x7, x8, x9⟩ := free10 (s := D8.zero) (h := 0) HX3.out
        have hl0 := block_lt HS3.out; have hlx := block_lt HX3.out
        have HX := Lib.hid HX3.out; have Hbw := Lib.hid Hw3.out
        clear zf hbs
        go_wp2_with fail
        go_region
        clear yf x0 x1 x2 x3 x4 x5 x6 x7 x8 x9 r0 r1 r2 r3 r4 r5 r6 r7 r8 r9
        have h10 := set10 HX.out (.int .u8 (s.x0 : Int)) (.int .u8 (s.x1 : Int)) (.int .u8 (s.x2 : Int)) (.int .u8 (s.x3 : Int)) (.int .u8 (s.x4 : Int)) (.int .u8 (s.x5 : Int)) (.int .u8 (s.x6 : Int)) (.int .u8 (s.x7 : Int)) (.int .i64 (h : Int)) (.slice A' (n + 1) c')
        have hg10 := grown_set10 u2 (w.heap.size + 1 + 1) (.int .u8 (s.x0 : Int)) (.int .u8 (s.x1 : Int)) (.int .u8 (s.x2 : Int)) (.int .u8 (s.x3 : Int)) (.int .u8 (s.x4 : Int)) (.int .u8 (s.x5 : Int)) (.int .u8 (s.x6 : Int)) (.int .u8 (s.x7 : Int)) (.int .i64 (h : Int)) (.slice A' (n + 1) c')
        generalize ((((((((((u2.setCell ⟨w.heap.size + 1 + 1, 0, none⟩ (.int .u8 (s.x0 : Int))).setCell ⟨w.heap.size + 1 + 1, 1, none⟩ (.int .u8 (s.x1 : Int))).setCell ⟨w.heap.size + 1 + 1, 2, none⟩ (.int .u8 (s.x2 : Int))).setCell ⟨w.heap.size + 1 + 1, 3, none⟩ (.int .u8 (s.x3 : Int))).setCell ⟨w.heap.size + 1 + 1, 4, none⟩ (.int .u8 (s.x4 : Int))).setCell ⟨w.heap.size + 1 + 1, 5, none⟩ (.int .u8 (s.x5 : Int))).setCell ⟨w.heap.size + 1 + 1, 6, none⟩ (.int .u8 (s.x6 : Int))).setCell ⟨w.heap.size + 1 + 1, 7, none⟩ (.int .u8 (s.x7 : Int))).setCell ⟨w.heap.size + 1 + 1, 8, none⟩ (.int .i64 (h : Int))).setCell ⟨w.heap.size + 1 + 1, 9, none⟩ (.slice A' (n + 1) c')) = u3 at *
        obtain ⟨zf, r0, r1, r2, r3, r4, r5, r6, r7, r8, r9⟩ := free10 h10
        have Hb2 := Lib.hid (Hbw.out.grown hg10 Hbw.out.size (fun k hk => by injection hk with hk; omega))
        have HG10 := Lib.hid hg10
        clear h10 hg10
        have HO4 := Lib.hid (own_keep HO3.out (fun g2 hg2 => HG10.out.block g2 (HO3.out.lt g2 hg2).2 (by intro e; injection e with e; have := (HO3.out.lt g2 hg2).1; have := HWl.out; omega)))
        go_wp2
        refine bodyPost_ret (v := .tuple #[.agg #[.int .u8 (s.x0 : Int), .int .u8 (s.x1 : Int), .int .u8 (s.x2 : Int), .int .u8 (s.x3 : Int), .int .u8 (s.x4 : Int), .int .u8 (s.x5 : Int), .int .u8 (s.x6 : Int), .int .u8 (s.x7 : Int), .int .i64 (h : Int), (.slice A' (n + 1) c')], .int .i64 (n : Int), .int .i64 0]) (by simp [results, Tryz.results16, go_sem, r0, r1, r2, r3, r4, r5, r6, r7, r8, r9]) rfl ⟨A', n + 1, c', by rw [Hres.out]; rfl, ?_, Hb2.out.drew, .inr ?_⟩
        · rw [Hres.out, flatD_append, show flatD [m] = m.cells from by simp [flatD], ← Hxsl.out]
          exact Rd.of_own HO4.out
        · rintro ad rfl
          have h1 := HO4.out.lt ad.block rfl
          have h2 := HWl.out
          exact ⟨by omega, h1.2⟩
end Go.Proofs.YtmpklplojfjfbaaGreatDoor
