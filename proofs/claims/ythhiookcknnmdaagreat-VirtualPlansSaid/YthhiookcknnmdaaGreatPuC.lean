/- The walk of a purse's Check. Conditions: bounds. -/
import Derived.Test.YthhiookcknnmdaaGreatPuB
namespace Go.Proofs.YthhiookcknnmdaaGreat
open Go.RowKit Go.Lib


theorem elem_held : Tryz.prog.underlying 83 = some (.slice (Tryz.prog.elem 83)) := by kernel_rfl
theorem sizeOf_held : ∀ w', (sizeOf (Tryz.prog.elem 83)).run Tryz.prog w' = .ok 11 w' := fun w' => by kernel_rfl
theorem check_rng {p : Pu} (h : (far p.no && rgt p.h0 && rgt p.h1) = false) : p.check = 2 := by unfold Pu.check; rw [h]; rfl
theorem check_long {p : Pu} (h : (far p.no && rgt p.h0 && rgt p.h1) = true) (h2 : 16 < p.held.length) : p.check = 8 := by unfold Pu.check; rw [h]; simp [h2]
theorem check_held {p : Pu} (h : (far p.no && rgt p.h0 && rgt p.h1) = true) (h2 : ¬ 16 < p.held.length) {x : Int} (h3 : checkL p.held = x) (hx : x ≠ 0) : p.check = x := by unfold Pu.check; rw [h]; simp [h2, h3, hx]
theorem check_sum {p : Pu} (h : (far p.no && rgt p.h0 && rgt p.h1) = true) (h2 : ¬ 16 < p.held.length) (h3 : checkL p.held = 0) : p.check = if rgt p.sum then 0 else 2 := by unfold Pu.check; rw [h]; simp [h2, h3]
theorem twice_yes {l : List Hd} {k j : Nat} (hj : j < k) (h : eqI (l.getD j default).nm.L (l.getD k default).nm.L = true) : twiceB l k = true := by
 unfold twiceB; rw [List.any_eq_true]; exact ⟨j, by simpa using hj, h⟩
theorem twice_no {l : List Hd} {k : Nat} (h : ∀ j, j < k → eqI (l.getD j default).nm.L (l.getD k default).nm.L = false) : twiceB l k = false := by
 unfold twiceB; rw [List.any_eq_false]; intro j hj; rw [h j (by simpa using hj)]; simp
theorem code_bad {l : List Hd} {k : Nat} (h : ¬ (l.getD k default).ok) : codeAt l k = 2 := by unfold codeAt; rw [if_neg h]
theorem code_twice {l : List Hd} {k : Nat} (h : (l.getD k default).ok) (h2 : twiceB l k = true) : codeAt l k = 7 := by unfold codeAt; rw [if_pos h, h2]; rfl
theorem code_good {l : List Hd} {k : Nat} (h : (l.getD k default).ok) (h2 : twiceB l k = false) : codeAt l k = 0 := by unfold codeAt; rw [if_pos h, h2]; rfl
theorem getD_take {l : List Hd} {k j : Nat} (h : j < k) : (l.take k).getD j default = l.getD j default := by
 rw [List.getD_eq_getElem?_getD, List.getElem?_take_of_lt h, ← List.getD_eq_getElem?_getD]
set_option maxRecDepth 100000 in
set_option maxHeartbeats 4000000 in
theorem pcheck_any (p : Pu) (A : Option Addr) (n c : Nat) (w : World) (h : PuV.At p A n c w) :
  Calls Tryz.prog 96 #[.agg #[.int .u8 p.nm.x0, .int .u8 p.nm.x1, .int .u8 p.nm.x2, .int .u8 p.nm.x3, .int .u8 p.nm.x4, .int .u8 p.nm.x5, .int .u8 p.nm.x6, .int .u8 p.nm.x7, .int .i64 p.no, .int .i64 p.h0, .int .i64 p.h1, .slice A n c]] w fun e w' => e = .returned (.int .i64 p.check) ∧ Below w.heap.size w w' := by
 have H := Lib.hid h
 have Hl := Lib.hid h.rd.hlen
 have hsm := h.small
 clear h
 by_cases q1 : far p.no = false
 ·
  have Hr : Hid (p.check = 2) := check_rng (by simp [*])
  go_enter Tryz.func96, Tryz.ntmps96
  go_wp2_with (first
  | (go_at_call 150; refine (far_any _ _).mono ?_; rintro e w' ⟨rfl, rfl⟩)
  | (go_at_call 151; refine (rgt_any _ _).mono ?_; rintro e w' ⟨rfl, rfl⟩)
  | (go_at_call 152; refine (some_any _ _).mono ?_; rintro e w' ⟨rfl, rfl⟩))
  go_ret
  exact ⟨by rw [Hr.out]; rfl, below_one _ _⟩
 replace q1 : far p.no = true := by simpa using q1
 by_cases q2 : rgt p.h0 = false
 ·
  have Hr : Hid (p.check = 2) := check_rng (by simp [*])
  go_enter Tryz.func96, Tryz.ntmps96
  go_wp2_with (first
  | (go_at_call 150; refine (far_any _ _).mono ?_; rintro e w' ⟨rfl, rfl⟩)
  | (go_at_call 151; refine (rgt_any _ _).mono ?_; rintro e w' ⟨rfl, rfl⟩)
  | (go_at_call 152; refine (some_any _ _).mono ?_; rintro e w' ⟨rfl, rfl⟩))
  go_ret
  exact ⟨by rw [Hr.out]; rfl, below_one _ _⟩
 replace q2 : rgt p.h0 = true := by simpa using q2
 by_cases q3 : rgt p.h1 = false
 ·
  have Hr : Hid (p.check = 2) := check_rng (by simp [*])
  go_enter Tryz.func96, Tryz.ntmps96
  go_wp2_with (first
  | (go_at_call 150; refine (far_any _ _).mono ?_; rintro e w' ⟨rfl, rfl⟩)
  | (go_at_call 151; refine (rgt_any _ _).mono ?_; rintro e w' ⟨rfl, rfl⟩)
  | (go_at_call 152; refine (some_any _ _).mono ?_; rintro e w' ⟨rfl, rfl⟩))
  go_ret
  exact ⟨by rw [Hr.out]; rfl, below_one _ _⟩
 replace q3 : rgt p.h1 = true := by simpa using q3
 have Hrng : Hid ((far p.no && rgt p.h0 && rgt p.h1) = true) := by show _ = _; simp [q1, q2, q3]
 by_cases q4 : 16 < n
 ·have Hr : Hid (p.check = 8) := check_long Hrng.out (by rw [Hl.out]; exact q4)
  have b4 : decide ((16 : Int) < (n : Int)) = true := decide_eq_true (by omega)
  clear q4
  go_enter Tryz.func96, Tryz.ntmps96
  go_wp2_with (first
  | (go_at_call 150; refine (far_any _ _).mono ?_; rintro e w' ⟨rfl, rfl⟩)
  | (go_at_call 151; refine (rgt_any _ _).mono ?_; rintro e w' ⟨rfl, rfl⟩)
  | (go_at_call 152; refine (some_any _ _).mono ?_; rintro e w' ⟨rfl, rfl⟩))
  go_ret
  exact ⟨by rw [Hr.out]; rfl, below_one _ _⟩
 have b4 : decide ((16 : Int) < (n : Int)) = false := decide_eq_false (by omega)
 have hn16 : n ≤ 16 := by omega
 have Hlong : Hid (¬ 16 < p.held.length) := by show ¬ _; rw [Hl.out]; exact q4
 clear q4
 have HT := Lib.hid (heap_alloc_new w (.cells #[.int .u8 p.nm.x0, .int .u8 p.nm.x1, .int .u8 p.nm.x2, .int .u8 p.nm.x3, .int .u8 p.nm.x4, .int .u8 p.nm.x5, .int .u8 p.nm.x6, .int .u8 p.nm.x7, .int .i64 p.no, .int .i64 p.h0, .int .i64 p.h1, .slice A n c] 85))
 have heq := eql_dig
 go_enter Tryz.func96, Tryz.ntmps96
 go_wp2_with (first
  | (go_at_call 150; refine (far_any _ _).mono ?_; rintro e w' ⟨rfl, rfl⟩)
  | (go_at_call 151; refine (rgt_any _ _).mono ?_; rintro e w' ⟨rfl, rfl⟩)
  | (go_at_call 152; refine (some_any _ _).mono ?_; rintro e w' ⟨rfl, rfl⟩))
 go_loopw [32] (fun i wr => ∃ k : Nat, k ≤ n ∧ i = .int .i64 k ∧ (∀ j, j < k → codeAt p.held j = 0) ∧ wr.heap[w.heap.size]? = some (.cells #[.int .u8 p.nm.x0, .int .u8 p.nm.x1, .int .u8 p.nm.x2, .int .u8 p.nm.x3, .int .u8 p.nm.x4, .int .u8 p.nm.x5, .int .u8 p.nm.x6, .int .u8 p.nm.x7, .int .i64 p.no, .int .i64 p.h0, .int .i64 p.h1, .slice A n c] 85 (0, 0)) ∧ Below w.heap.size w wr) (fun i _ => n - (intOf i).toNat)
 case atStart => exact ⟨0, by omega, rfl, fun j hj => absurd hj (by omega), HT.out, below_one _ _⟩
 case round =>
  obtain ⟨k, hk, rfl, h0, hT, hbel⟩ := hrel
  have H0 := Lib.hid h0; have HT' := Lib.hid hT; have Hbel := Lib.hid hbel
  have z0 := block_cell hT 0; have z1 := block_cell hT 1; have z2 := block_cell hT 2; have z3 := block_cell hT 3; have z4 := block_cell hT 4; have z5 := block_cell hT 5; have z6 := block_cell hT 6; have z7 := block_cell hT 7; have z8 := block_cell hT 8; have z9 := block_cell hT 9; have z10 := block_cell hT 10; have z11 := block_cell hT 11
  simp at z0 z1 z2 z3 z4 z5 z6 z7 z8 z9 z10 z11
  clear h0 hT
  by_cases hlt : k < n
  ·have Hrd := Lib.hid (H.out.rd.up hbel (Nat.le_refl _))
   obtain ⟨A2, hrun, hrd2⟩ := slice_to elem_held sizeOf_held Hrd.out H.out.cap (m := k) (by omega)
   rw [← flatH_take] at hrd2
   have Hrd2 := Lib.hid hrd2
   clear hrd2
   have hwz := block_lt HT'.out
   obtain ⟨b, o, rfl, hbB, x0, x1, x2, x3, x4, x5, x6, x7, x8, x9, x10⟩ := Hrd.out.hd hlt
   have hd1 : decide ((k : Int) < (n : Int)) = true := decide_eq_true (by omega)
   have hki : (k : Int) < (n : Int) := by omega
   have Hsz := Lib.hid hbel.size
   clear hbel
   have Hgk : Hid (∀ P : Hd → Prop, P (p.held.getD k default) → P (p.held.getD k default)) := fun _ x => x
   by_cases hok : (p.held.getD k default).ok
   ·have Hok := Lib.hid hok
    obtain ⟨⟨o1, o2⟩, ⟨o3, o4⟩, o5, o6⟩ := hok
    generalize hhk : p.held.getD k default = h at *
    have Hhk := Lib.hid hhk
    clear hhk
    have c1 : posB h.am = true := posB_iff.2 ⟨o1, o2⟩
    have c2 : decide (h.fr < 0) = false := decide_eq_false (by omega)
    have c3 : decide (1 < h.fr) = false := decide_eq_false (by omega)
    have c4 : far h.un = true := far_iff.2 ⟨o5, o6⟩
    clear o1 o2 o3 o4 o5 o6
    have HTa := Lib.hid (block_alloc HT'.out (.cells #[.int .u8 h.nm.x0, .int .u8 h.nm.x1, .int .u8 h.nm.x2, .int .u8 h.nm.x3, .int .u8 h.nm.x4, .int .u8 h.nm.x5, .int .u8 h.nm.x6, .int .u8 h.nm.x7, .int .i64 h.am, .int .i64 h.fr, .int .i64 h.un] 120))
    have HTh := Lib.hid (heap_alloc_new wr (.cells #[.int .u8 h.nm.x0, .int .u8 h.nm.x1, .int .u8 h.nm.x2, .int .u8 h.nm.x3, .int .u8 h.nm.x4, .int .u8 h.nm.x5, .int .u8 h.nm.x6, .int .u8 h.nm.x7, .int .i64 h.am, .int .i64 h.fr, .int .i64 h.un] 120))
    have Hbel2 := Lib.hid (Hbel.out.alloc Hsz.out (.cells #[.int .u8 h.nm.x0, .int .u8 h.nm.x1, .int .u8 h.nm.x2, .int .u8 h.nm.x3, .int .u8 h.nm.x4, .int .u8 h.nm.x5, .int .u8 h.nm.x6, .int .u8 h.nm.x7, .int .i64 h.am, .int .i64 h.fr, .int .i64 h.un] 120))
    have Hrd3 := Lib.hid (Hrd2.out.alloc (Nat.le_refl _) (.cells #[.int .u8 h.nm.x0, .int .u8 h.nm.x1, .int .u8 h.nm.x2, .int .u8 h.nm.x3, .int .u8 h.nm.x4, .int .u8 h.nm.x5, .int .u8 h.nm.x6, .int .u8 h.nm.x7, .int .i64 h.am, .int .i64 h.fr, .int .i64 h.un] 120))
    go_wp2_with (first
  | (go_at_call 150; refine (far_any _ _).mono ?_; rintro e w' ⟨rfl, rfl⟩)
  | (go_at_call 151; refine (rgt_any _ _).mono ?_; rintro e w' ⟨rfl, rfl⟩)
  | (go_at_call 152; refine (some_any _ _).mono ?_; rintro e w' ⟨rfl, rfl⟩))
    obtain ⟨wo, rfl⟩ : ∃ wo : World, wo = wr := ⟨_, rfl⟩
    go_loopw [62] (fun i wr => ∃ m : Nat, m ≤ k ∧ i = .int .i64 m ∧ (∀ j, j < m → eqI (p.held.getD j default).nm.L h.nm.L = false) ∧ wr.heap[w.heap.size]? = some (.cells #[.int .u8 p.nm.x0, .int .u8 p.nm.x1, .int .u8 p.nm.x2, .int .u8 p.nm.x3, .int .u8 p.nm.x4, .int .u8 p.nm.x5, .int .u8 p.nm.x6, .int .u8 p.nm.x7, .int .i64 p.no, .int .i64 p.h0, .int .i64 p.h1, .slice (some ⟨b, o, none⟩) n c] 85 (0, 0)) ∧ wr.heap[wo.heap.size]? = some (.cells #[.int .u8 h.nm.x0, .int .u8 h.nm.x1, .int .u8 h.nm.x2, .int .u8 h.nm.x3, .int .u8 h.nm.x4, .int .u8 h.nm.x5, .int .u8 h.nm.x6, .int .u8 h.nm.x7, .int .i64 h.am, .int .i64 h.fr, .int .i64 h.un] 120 (0, 0)) ∧ Rd wr wo.heap.size 11 A2 k (flatH (p.held.take k)) ∧ wo.heap.size < wr.heap.size ∧ Below w.heap.size w wr) (fun i _ => k - (intOf i).toNat)
    case atStart => exact ⟨0, by omega, rfl, fun j hj => absurd hj (by omega), HTa.out, HTh.out, Hrd3.out, by simp, Hbel2.out⟩
    case round =>
     obtain ⟨m, hm, rfl, hne, hT1, hT4, hrd4, hsz4, hbel4⟩ := hrel
     have Hne := Lib.hid hne; have HT1 := Lib.hid hT1; have HT4 := Lib.hid hT4; have Hrd4 := Lib.hid hrd4; have Hbel4 := Lib.hid hbel4
     clear z0 z1 z2 z3 z4 z5 z6 z7 z8 z9 z10 z11 x0 x1 x2 x3 x4 x5 x6 x7 x8 x9 x10
     have y0 := block_cell hT4 0; have y1 := block_cell hT4 1; have y2 := block_cell hT4 2; have y3 := block_cell hT4 3; have y4 := block_cell hT4 4; have y5 := block_cell hT4 5; have y6 := block_cell hT4 6; have y7 := block_cell hT4 7
     simp at y0 y1 y2 y3 y4 y5 y6 y7
     clear hne hT1 hT4 hrd4 hbel4
     by_cases hlt2 : m < k
     ·obtain ⟨b2, o2, rfl, hbB2, x0, x1, x2, x3, x4, x5, x6, x7, x8, x9, x10⟩ := Hrd4.out.hd hlt2
      rw [getD_take hlt2] at x0 x1 x2 x3 x4 x5 x6 x7 x8 x9 x10
      generalize hhm : p.held.getD m default = d at *
      have Hhm := Lib.hid hhm
      clear hhm
      have hd2 : decide ((m : Int) < (k : Int)) = true := decide_eq_true (by omega)
      have hmi : (m : Int) < (k : Int) := by omega
      by_cases hE : eqI d.nm.L h.nm.L = true
      ·have c5 : eqI [(d.nm.x0 : Int), (d.nm.x1 : Int), (d.nm.x2 : Int), (d.nm.x3 : Int), (d.nm.x4 : Int), (d.nm.x5 : Int), (d.nm.x6 : Int), (d.nm.x7 : Int)] [(h.nm.x0 : Int), (h.nm.x1 : Int), (h.nm.x2 : Int), (h.nm.x3 : Int), (h.nm.x4 : Int), (h.nm.x5 : Int), (h.nm.x6 : Int), (h.nm.x7 : Int)] = true := hE
       have Hr : Hid (p.check = 7) := by
        have h7 : codeAt p.held k = 7 := code_twice (by rw [Hhk.out]; exact Hok.out) (twice_yes hlt2 (by rw [Hhm.out, Hhk.out]; exact hE))
        exact check_held Hrng.out Hlong.out ((checkL_bad (by have := Hl.out; omega) H0.out (by rw [h7]; decide)).trans h7) (by decide)
       clear hE
       go_wp2
       go_ret
       exact ⟨by rw [Hr.out]; rfl, Hbel4.out.alloc Hbel4.out.size _⟩
      ·have hE' : eqI d.nm.L h.nm.L = false := by simpa using hE
       have c5 : eqI [(d.nm.x0 : Int), (d.nm.x1 : Int), (d.nm.x2 : Int), (d.nm.x3 : Int), (d.nm.x4 : Int), (d.nm.x5 : Int), (d.nm.x6 : Int), (d.nm.x7 : Int)] [(h.nm.x0 : Int), (h.nm.x1 : Int), (h.nm.x2 : Int), (h.nm.x3 : Int), (h.nm.x4 : Int), (h.nm.x5 : Int), (h.nm.x6 : Int), (h.nm.x7 : Int)] = false := hE'
       have HE := Lib.hid hE'
       clear hE hE'
       have HT1a := Lib.hid (block_alloc HT1.out (.cells #[.int .u8 d.nm.x0, .int .u8 d.nm.x1, .int .u8 d.nm.x2, .int .u8 d.nm.x3, .int .u8 d.nm.x4, .int .u8 d.nm.x5, .int .u8 d.nm.x6, .int .u8 d.nm.x7, .int .i64 d.am, .int .i64 d.fr, .int .i64 d.un] 120))
       have HT4a := Lib.hid (block_alloc HT4.out (.cells #[.int .u8 d.nm.x0, .int .u8 d.nm.x1, .int .u8 d.nm.x2, .int .u8 d.nm.x3, .int .u8 d.nm.x4, .int .u8 d.nm.x5, .int .u8 d.nm.x6, .int .u8 d.nm.x7, .int .i64 d.am, .int .i64 d.fr, .int .i64 d.un] 120))
       have Hrd5 := Lib.hid (Hrd4.out.alloc (by omega) (.cells #[.int .u8 d.nm.x0, .int .u8 d.nm.x1, .int .u8 d.nm.x2, .int .u8 d.nm.x3, .int .u8 d.nm.x4, .int .u8 d.nm.x5, .int .u8 d.nm.x6, .int .u8 d.nm.x7, .int .i64 d.am, .int .i64 d.fr, .int .i64 d.un] 120))
       have Hbel5 := Lib.hid (Hbel4.out.alloc Hbel4.out.size (.cells #[.int .u8 d.nm.x0, .int .u8 d.nm.x1, .int .u8 d.nm.x2, .int .u8 d.nm.x3, .int .u8 d.nm.x4, .int .u8 d.nm.x5, .int .u8 d.nm.x6, .int .u8 d.nm.x7, .int .i64 d.am, .int .i64 d.fr, .int .i64 d.un] 120))
       go_wp2
       go_roundw
       case rel =>
        refine ⟨m + 1, by omega, by go_num, fun j hj => ?_, HT1a.out, HT4a.out, Hrd5.out, by simp; omega, Hbel5.out⟩
        rcases Nat.lt_or_ge j m with h1 | h1
        ·exact Hne.out j h1
        ·obtain rfl : j = m := by omega
         rw [Hhm.out]; exact HE.out
       case measure => simp [intOf]; omega
     ·have hmk : m = k := by omega
      subst hmk
      have hd2 : decide ((m : Int) < (m : Int)) = false := decide_eq_false (by omega)
      clear hlt2
      go_wp2
      go_roundw
      case rel =>
       refine ⟨m + 1, by omega, by go_num, fun j hj => ?_, HT1.out, Hbel4.out⟩
       rcases Nat.lt_or_ge j m with h1 | h1
       ·exact H0.out j h1
       ·obtain rfl : j = m := by omega
        exact code_good (by rw [Hhk.out]; exact Hok.out) (twice_no (fun j hj => by rw [Hhk.out]; exact Hne.out j hj))
      case measure => simp [intOf]; omega
   ·have Hbad := Lib.hid hok
    clear hrun
    have Hr : Hid (p.check = 2) := check_held Hrng.out Hlong.out ((checkL_bad (by have := Hl.out; omega) H0.out (by rw [code_bad Hbad.out]; decide)).trans (code_bad Hbad.out)) (by decide)
    by_cases c1 : posB (p.held.getD k default).am = false
    ·generalize p.held.getD k default = h at *
     clear hok
     go_wp2_with (first
  | (go_at_call 150; refine (far_any _ _).mono ?_; rintro e w' ⟨rfl, rfl⟩)
  | (go_at_call 151; refine (rgt_any _ _).mono ?_; rintro e w' ⟨rfl, rfl⟩)
  | (go_at_call 152; refine (some_any _ _).mono ?_; rintro e w' ⟨rfl, rfl⟩))
     go_ret
     exact ⟨by rw [Hr.out]; rfl, Hbel.out.alloc Hbel.out.size _⟩
    replace c1 : posB (p.held.getD k default).am = true := by simpa using c1
    by_cases c2 : (p.held.getD k default).fr < 0
    ·have c2' : decide ((p.held.getD k default).fr < 0) = true := decide_eq_true c2
     generalize p.held.getD k default = h at *
     clear hok c2
     go_wp2_with (first
  | (go_at_call 150; refine (far_any _ _).mono ?_; rintro e w' ⟨rfl, rfl⟩)
  | (go_at_call 151; refine (rgt_any _ _).mono ?_; rintro e w' ⟨rfl, rfl⟩)
  | (go_at_call 152; refine (some_any _ _).mono ?_; rintro e w' ⟨rfl, rfl⟩))
     go_ret
     exact ⟨by rw [Hr.out]; rfl, Hbel.out.alloc Hbel.out.size _⟩
    have c2' : decide ((p.held.getD k default).fr < 0) = false := decide_eq_false c2
    by_cases c3 : 1 < (p.held.getD k default).fr
    ·have c3' : decide (1 < (p.held.getD k default).fr) = true := decide_eq_true c3
     generalize p.held.getD k default = h at *
     clear hok c2 c3
     go_wp2_with (first
  | (go_at_call 150; refine (far_any _ _).mono ?_; rintro e w' ⟨rfl, rfl⟩)
  | (go_at_call 151; refine (rgt_any _ _).mono ?_; rintro e w' ⟨rfl, rfl⟩)
  | (go_at_call 152; refine (some_any _ _).mono ?_; rintro e w' ⟨rfl, rfl⟩))
     go_ret
     exact ⟨by rw [Hr.out]; rfl, Hbel.out.alloc Hbel.out.size _⟩
    have c3' : decide (1 < (p.held.getD k default).fr) = false := decide_eq_false c3
    have c4 : far (p.held.getD k default).un = false := by
     rw [far_no]
     intro hf
     have := posB_iff.1 c1
     exact hok ⟨this, ⟨by omega, by omega⟩, hf⟩
    generalize p.held.getD k default = h at *
    clear hok c2 c3
    go_wp2_with (first
  | (go_at_call 150; refine (far_any _ _).mono ?_; rintro e w' ⟨rfl, rfl⟩)
  | (go_at_call 151; refine (rgt_any _ _).mono ?_; rintro e w' ⟨rfl, rfl⟩)
  | (go_at_call 152; refine (some_any _ _).mono ?_; rintro e w' ⟨rfl, rfl⟩))
    go_ret
    exact ⟨by rw [Hr.out]; rfl, Hbel.out.alloc Hbel.out.size _⟩
  ·have hkn : k = n := by omega
   subst hkn
   have hd1 : decide ((k : Int) < (k : Int)) = false := decide_eq_false (by omega)
   have h3 : checkL p.held = 0 := checkL_good (fun j hj => H0.out j (by have := Hl.out; omega))
   have hok : ∀ j, j < p.held.length → 0 ≤ (p.held.getD j default).am ∧ (p.held.getD j default).am ≤ 1125899906842624 := fun j hj => by
    have := (codeAt_ok.1 (H0.out j (by have := Hl.out; omega))).1.1
    omega
   have Hok := Lib.hid hok
   have Hs := Lib.hid (check_sum Hrng.out Hlong.out h3)
   have r0 := rgt_iff.1 q2
   have r1 := rgt_iff.1 q3
   have R0 := Lib.hid r0; have R1 := Lib.hid r1
   clear hok h3 hlt hbel r0 r1
   go_wp2_with fail
   refine (sum_any p A k c wr (H.out.up Hbel.out) hn16 R0.out R1.out Hok.out).mono ?_
   rintro e w4 ⟨rfl, hb4⟩
   have Hb4 := Lib.hid (Hbel.out.trans (hb4.mono Hbel.out.size))
   clear hb4
   by_cases hs : rgt p.sum = true
   ·have hs' := hs
    rw [hs'] at Hs
    clear hs'
    go_wp2_with (go_at_call 151; refine (rgt_any _ _).mono ?_; rintro e w' ⟨rfl, rfl⟩)
    go_ret
    exact ⟨by rw [Hs.out]; rfl, Hb4.out⟩
   ·replace hs : rgt p.sum = false := by simpa using hs
    have hs' := hs
    rw [hs'] at Hs
    clear hs'
    go_wp2_with (go_at_call 151; refine (rgt_any _ _).mono ?_; rintro e w' ⟨rfl, rfl⟩)
    go_ret
    exact ⟨by rw [Hs.out]; rfl, Hb4.out⟩
end Go.Proofs.YthhiookcknnmdaaGreat
