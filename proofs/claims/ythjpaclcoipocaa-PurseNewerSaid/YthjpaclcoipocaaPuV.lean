/- The walks of the reference's Place and Check of a purse. Conditions: bounds. -/
import Derived.Test.YthjpaclcoipocaaPuL
import Derived.Test.YthjpaclcoipocaaPuS0
import Derived.RegionTactic
import Derived.Deep.RegionLaw
namespace Go.Proofs.Ythjpaclcoipocaa
open Go.RowKit Go.Lib


set_option maxRecDepth 100000 in
set_option maxHeartbeats 2000000 in
theorem placer_any (p : Pu) (A : Option Addr) (n c : Nat) (d : D8) (w : World) (h : PuV.At p A n c w) :
    Calls Try.prog 27 #[.agg #[.int .u8 (p.nm.x0 : Int), .int .u8 (p.nm.x1 : Int), .int .u8 (p.nm.x2 : Int), .int .u8 (p.nm.x3 : Int), .int .u8 (p.nm.x4 : Int), .int .u8 (p.nm.x5 : Int), .int .u8 (p.nm.x6 : Int), .int .u8 (p.nm.x7 : Int), .int .i64 p.no, .int .i64 p.h0, .int .i64 p.h1, .slice A n c], .agg #[.int .u8 (d.x0 : Int), .int .u8 (d.x1 : Int), .int .u8 (d.x2 : Int), .int .u8 (d.x3 : Int), .int .u8 (d.x4 : Int), .int .u8 (d.x5 : Int), .int .u8 (d.x6 : Int), .int .u8 (d.x7 : Int)]] w fun e w' => e = .returned (.int .i64 (placeL p.held d)) ∧ Below w.heap.size w w' := by
  have H := Lib.hid h
  have Hl := Lib.hid h.rd.hlen
  have hsm := h.small
  clear h
  have HT : Hid (((w.alloc (.cells #[.int .u8 (p.nm.x0 : Int), .int .u8 (p.nm.x1 : Int), .int .u8 (p.nm.x2 : Int), .int .u8 (p.nm.x3 : Int), .int .u8 (p.nm.x4 : Int), .int .u8 (p.nm.x5 : Int), .int .u8 (p.nm.x6 : Int), .int .u8 (p.nm.x7 : Int), .int .i64 p.no, .int .i64 p.h0, .int .i64 p.h1, .slice A n c] 26)).alloc (.cells #[.int .u8 (d.x0 : Int), .int .u8 (d.x1 : Int), .int .u8 (d.x2 : Int), .int .u8 (d.x3 : Int), .int .u8 (d.x4 : Int), .int .u8 (d.x5 : Int), .int .u8 (d.x6 : Int), .int .u8 (d.x7 : Int)] 22)).heap[w.heap.size]? = some (.cells #[.int .u8 (p.nm.x0 : Int), .int .u8 (p.nm.x1 : Int), .int .u8 (p.nm.x2 : Int), .int .u8 (p.nm.x3 : Int), .int .u8 (p.nm.x4 : Int), .int .u8 (p.nm.x5 : Int), .int .u8 (p.nm.x6 : Int), .int .u8 (p.nm.x7 : Int), .int .i64 p.no, .int .i64 p.h0, .int .i64 p.h1, .slice A n c] 26 (0, 0))) := block_alloc (heap_alloc_new _ _) _
  have HD : Hid (((w.alloc (.cells #[.int .u8 (p.nm.x0 : Int), .int .u8 (p.nm.x1 : Int), .int .u8 (p.nm.x2 : Int), .int .u8 (p.nm.x3 : Int), .int .u8 (p.nm.x4 : Int), .int .u8 (p.nm.x5 : Int), .int .u8 (p.nm.x6 : Int), .int .u8 (p.nm.x7 : Int), .int .i64 p.no, .int .i64 p.h0, .int .i64 p.h1, .slice A n c] 26)).alloc (.cells #[.int .u8 (d.x0 : Int), .int .u8 (d.x1 : Int), .int .u8 (d.x2 : Int), .int .u8 (d.x3 : Int), .int .u8 (d.x4 : Int), .int .u8 (d.x5 : Int), .int .u8 (d.x6 : Int), .int .u8 (d.x7 : Int)] 22)).heap[w.heap.size + 1]? = some (.cells #[.int .u8 (d.x0 : Int), .int .u8 (d.x1 : Int), .int .u8 (d.x2 : Int), .int .u8 (d.x3 : Int), .int .u8 (d.x4 : Int), .int .u8 (d.x5 : Int), .int .u8 (d.x6 : Int), .int .u8 (d.x7 : Int)] 22 (0, 0))) := alloc_at (by simp)
  have heq := eql_digR
  go_enter Try.func27, Try.ntmps27
  go_wp2
  go_loopw [5] (fun i wr => ∃ k : Nat, k ≤ n ∧ i = .int .i64 (k : Int) ∧ (∀ j, j < k → eqI (p.held.getD j default).nm.L d.L = false) ∧ wr.heap[w.heap.size]? = some (.cells #[.int .u8 (p.nm.x0 : Int), .int .u8 (p.nm.x1 : Int), .int .u8 (p.nm.x2 : Int), .int .u8 (p.nm.x3 : Int), .int .u8 (p.nm.x4 : Int), .int .u8 (p.nm.x5 : Int), .int .u8 (p.nm.x6 : Int), .int .u8 (p.nm.x7 : Int), .int .i64 p.no, .int .i64 p.h0, .int .i64 p.h1, .slice A n c] 26 (0, 0)) ∧ wr.heap[w.heap.size + 1]? = some (.cells #[.int .u8 (d.x0 : Int), .int .u8 (d.x1 : Int), .int .u8 (d.x2 : Int), .int .u8 (d.x3 : Int), .int .u8 (d.x4 : Int), .int .u8 (d.x5 : Int), .int .u8 (d.x6 : Int), .int .u8 (d.x7 : Int)] 22 (0, 0)) ∧ Below w.heap.size w wr) (fun i _ => n - (intOf i).toNat)
  case atStart => exact ⟨0, by omega, rfl, fun j hj => absurd hj (by omega), HT.out, HD.out, below_two _ _ _⟩
  case round =>
    obtain ⟨k, hk, rfl, h0, hT, hD, hbel⟩ := hrel
    have H0 := Lib.hid h0; have HT' := Lib.hid hT; have HD' := Lib.hid hD; have Hbel := Lib.hid hbel
    obtain ⟨z0, z1, z2, z3, z4, z5, z6, z7⟩ := And.intro (block_cell hD 0) (And.intro (block_cell hD 1) (And.intro (block_cell hD 2) (And.intro (block_cell hD 3) (And.intro (block_cell hD 4) (And.intro (block_cell hD 5) (And.intro (block_cell hD 6) (block_cell hD 7)))))))
    have t11 := block_cell hT 11
    simp at z0 z1 z2 z3 z4 z5 z6 z7 t11
    clear h0 hD hT
    by_cases hlt : k < n
    · obtain ⟨b, o, rfl, hbB, x0, x1, x2, x3, x4, x5, x6, x7, x8, x9, x10⟩ := (H.out.rd.up hbel (Nat.le_refl _)).hd hlt
      have hd1 : decide ((k : Int) < (n : Int)) = true := decide_eq_true (by omega)
      have hki : (k : Int) < (n : Int) := by omega
      generalize hhk : p.held.getD k default = h at *
      have Hhk := Lib.hid hhk
      clear hhk hbel
      by_cases hE : eqI h.nm.L d.L = true
      · have c5 : eqI [(h.nm.x0 : Int), (h.nm.x1 : Int), (h.nm.x2 : Int), (h.nm.x3 : Int), (h.nm.x4 : Int), (h.nm.x5 : Int), (h.nm.x6 : Int), (h.nm.x7 : Int)] [(d.x0 : Int), (d.x1 : Int), (d.x2 : Int), (d.x3 : Int), (d.x4 : Int), (d.x5 : Int), (d.x6 : Int), (d.x7 : Int)] = true := hE
        have Hr : Hid (placeL p.held d = k) := place_upto (by have := Hl.out; omega) H0.out (by rw [Hhk.out]; exact hE)
        clear hE
        go_wp2
        go_region
        all_goals
          go_wp2
          go_ret
          exact ⟨by rw [Hr.out]; rfl, Hbel.out.drew⟩
      · have hE' : eqI h.nm.L d.L = false := by simpa using hE
        have c5 : eqI [(h.nm.x0 : Int), (h.nm.x1 : Int), (h.nm.x2 : Int), (h.nm.x3 : Int), (h.nm.x4 : Int), (h.nm.x5 : Int), (h.nm.x6 : Int), (h.nm.x7 : Int)] [(d.x0 : Int), (d.x1 : Int), (d.x2 : Int), (d.x3 : Int), (d.x4 : Int), (d.x5 : Int), (d.x6 : Int), (d.x7 : Int)] = false := hE'
        have HE := Lib.hid hE'
        clear hE hE'
        go_wp2
        go_region
        all_goals
          go_wp2
          go_roundw
          case rel =>
            refine ⟨k + 1, by omega, by go_num, fun j hj => ?_, HT'.out, HD'.out, Hbel.out.drew⟩
            rcases Nat.lt_or_ge j k with h1 | h1
            · exact H0.out j h1
            · obtain rfl : j = k := by omega
              rw [Hhk.out]; exact HE.out
          case measure => simp [intOf]; omega
    · have hkn : k = n := by omega
      subst hkn
      have hd1 : decide ((k : Int) < (k : Int)) = false := decide_eq_false (by omega)
      have Hr : Hid (placeL p.held d = -1) := place_none (by rw [Hl.out]; exact H0.out)
      clear hlt hbel
      go_wp2
      go_ret
      exact ⟨by rw [Hr.out]; rfl, Hbel.out⟩
theorem elem_heldR : Try.prog.underlying 24 = some (.slice (Try.prog.elem 24)) := by kernel_rfl
theorem sizeOf_heldR : ∀ w', (sizeOf (Try.prog.elem 24)).run Try.prog w' = .ok 11 w' := fun w' => by kernel_rfl
theorem place_twice {l : List Hd} {k : Nat} (hk : k < l.length) : twiceB l k = decide (0 ≤ placeL (l.take k) (l.getD k default).nm) := by
  have hlen : (l.take k).length = k := by rw [List.length_take]; omega
  by_cases h : 0 ≤ placeL (l.take k) (l.getD k default).nm
  · rw [decide_eq_true h]
    obtain ⟨h1, h2, _⟩ := placeL_yes h
    rw [hlen] at h1
    rw [getD_take h1] at h2
    exact twice_yes h1 (eqI_iff8.2 h2)
  · rw [decide_eq_false h]
    refine twice_no fun j hj => ?_
    have h2 := placeL_no.1 (show placeL (l.take k) (l.getD k default).nm < 0 by omega) ((l.take k).getD j default) (mem_getD (by rw [hlen]; exact hj))
    rw [getD_take hj] at h2
    cases he : eqI (l.getD j default).nm.L (l.getD k default).nm.L with
    | false => rfl
    | true => exact absurd (eqI_iff8.1 he) h2
set_option maxRecDepth 100000 in
set_option maxHeartbeats 4000000 in
theorem checkr_any (p : Pu) (A : Option Addr) (n c : Nat) (w : World) (h : PuV.At p A n c w) :
    Calls Try.prog 11 #[.agg #[.int .u8 (p.nm.x0 : Int), .int .u8 (p.nm.x1 : Int), .int .u8 (p.nm.x2 : Int), .int .u8 (p.nm.x3 : Int), .int .u8 (p.nm.x4 : Int), .int .u8 (p.nm.x5 : Int), .int .u8 (p.nm.x6 : Int), .int .u8 (p.nm.x7 : Int), .int .i64 p.no, .int .i64 p.h0, .int .i64 p.h1, .slice A n c]] w fun e w' => e = .returned (.int .i64 p.check) ∧ Below w.heap.size w w' := by
  have H := Lib.hid h
  have Hl := Lib.hid h.rd.hlen
  have hsm := h.small
  clear h
  by_cases q1 : far p.no = false
  ·
    have Hr : Hid (p.check = 2) := check_rng (by simp [*])
    go_enter Try.func11, Try.ntmps11
    go_wp2_with (first
    | (go_at_call 24; refine (height_any _ _).mono ?_; rintro e w' ⟨rfl, rfl⟩)
    | (go_at_call 25; refine (rgtr_any _ _).mono ?_; rintro e w' ⟨rfl, rfl⟩)
    | (go_at_call 26; refine (pos_any _ _).mono ?_; rintro e w' ⟨rfl, rfl⟩))
    go_ret
    exact ⟨by rw [Hr.out]; rfl, below_one _ _⟩
  replace q1 : far p.no = true := by simpa using q1
  by_cases q2 : rgt p.h0 = false
  ·
    have Hr : Hid (p.check = 2) := check_rng (by simp [*])
    go_enter Try.func11, Try.ntmps11
    go_wp2_with (first
    | (go_at_call 24; refine (height_any _ _).mono ?_; rintro e w' ⟨rfl, rfl⟩)
    | (go_at_call 25; refine (rgtr_any _ _).mono ?_; rintro e w' ⟨rfl, rfl⟩)
    | (go_at_call 26; refine (pos_any _ _).mono ?_; rintro e w' ⟨rfl, rfl⟩))
    go_ret
    exact ⟨by rw [Hr.out]; rfl, below_one _ _⟩
  replace q2 : rgt p.h0 = true := by simpa using q2
  by_cases q3 : rgt p.h1 = false
  ·
    have Hr : Hid (p.check = 2) := check_rng (by simp [*])
    go_enter Try.func11, Try.ntmps11
    go_wp2_with (first
    | (go_at_call 24; refine (height_any _ _).mono ?_; rintro e w' ⟨rfl, rfl⟩)
    | (go_at_call 25; refine (rgtr_any _ _).mono ?_; rintro e w' ⟨rfl, rfl⟩)
    | (go_at_call 26; refine (pos_any _ _).mono ?_; rintro e w' ⟨rfl, rfl⟩))
    go_ret
    exact ⟨by rw [Hr.out]; rfl, below_one _ _⟩
  replace q3 : rgt p.h1 = true := by simpa using q3
  have Hrng : Hid ((far p.no && rgt p.h0 && rgt p.h1) = true) := by show _ = _; simp [q1, q2, q3]
  by_cases q4 : 16 < n
  · have Hr : Hid (p.check = 8) := check_long Hrng.out (by rw [Hl.out]; exact q4)
    have b4 : decide ((16 : Int) < (n : Int)) = true := decide_eq_true (by omega)
    clear q4
    go_enter Try.func11, Try.ntmps11
    go_wp2_with (first
    | (go_at_call 24; refine (height_any _ _).mono ?_; rintro e w' ⟨rfl, rfl⟩)
    | (go_at_call 25; refine (rgtr_any _ _).mono ?_; rintro e w' ⟨rfl, rfl⟩)
    | (go_at_call 26; refine (pos_any _ _).mono ?_; rintro e w' ⟨rfl, rfl⟩))
    go_ret
    exact ⟨by rw [Hr.out]; rfl, below_one _ _⟩
  have b4 : decide ((16 : Int) < (n : Int)) = false := decide_eq_false (by omega)
  have hn16 : n ≤ 16 := by omega
  have Hlong : Hid (¬ 16 < p.held.length) := by show ¬ _; rw [Hl.out]; exact q4
  clear q4
  have HT := Lib.hid (heap_alloc_new w (.cells #[.int .u8 (p.nm.x0 : Int), .int .u8 (p.nm.x1 : Int), .int .u8 (p.nm.x2 : Int), .int .u8 (p.nm.x3 : Int), .int .u8 (p.nm.x4 : Int), .int .u8 (p.nm.x5 : Int), .int .u8 (p.nm.x6 : Int), .int .u8 (p.nm.x7 : Int), .int .i64 p.no, .int .i64 p.h0, .int .i64 p.h1, .slice A n c] 26))
  have r0 := rgt_iff.1 q2
  have r1 := rgt_iff.1 q3
  obtain ⟨p0, p1⟩ := r0
  obtain ⟨p2, p3⟩ := r1
  have R01 : Hid ((0 ≤ p.h0 ∧ p.h0 ≤ 1125899906842624) ∧ (0 ≤ p.h1 ∧ p.h1 ≤ 1125899906842624)) := ⟨⟨p0, p1⟩, p2, p3⟩
  go_enter Try.func11, Try.ntmps11
  go_wp2_with (first
    | (go_at_call 24; refine (height_any _ _).mono ?_; rintro e w' ⟨rfl, rfl⟩)
    | (go_at_call 25; refine (rgtr_any _ _).mono ?_; rintro e w' ⟨rfl, rfl⟩)
    | (go_at_call 26; refine (pos_any _ _).mono ?_; rintro e w' ⟨rfl, rfl⟩))
  go_loopw [3, 4] (fun s i wr => ∃ k : Nat, k ≤ n ∧ i = .int .i64 (k : Int) ∧ s = .int .i64 (p.h0 + p.h1 + sumL (p.held.take k)) ∧ (∀ j, j < k → codeAt p.held j = 0) ∧ wr.heap[w.heap.size]? = some (.cells #[.int .u8 (p.nm.x0 : Int), .int .u8 (p.nm.x1 : Int), .int .u8 (p.nm.x2 : Int), .int .u8 (p.nm.x3 : Int), .int .u8 (p.nm.x4 : Int), .int .u8 (p.nm.x5 : Int), .int .u8 (p.nm.x6 : Int), .int .u8 (p.nm.x7 : Int), .int .i64 p.no, .int .i64 p.h0, .int .i64 p.h1, .slice A n c] 26 (0, 0)) ∧ Below w.heap.size w wr) (fun _ i _ => n - (intOf i).toNat)
  case atStart => exact ⟨0, by omega, rfl, by simp [sumL], fun j hj => absurd hj (by omega), HT.out, below_one _ _⟩
  case round =>
    obtain ⟨k, hk, rfl, rfl, h0, hT, hbel⟩ := hrel
    have H0 := Lib.hid h0; have HT' := Lib.hid hT; have Hbel := Lib.hid hbel
    obtain ⟨z0, z1, z2, z3, z4, z5, z6, z7, z8, z9, z10, z11⟩ := PBox.all hT
    have hsb : 0 ≤ sumL (p.held.take k) ∧ sumL (p.held.take k) ≤ k * 1125899906842624 := by
      have hh := sumL_bound (l := p.held.take k) (fun j hj => by
        have hjk : j < k := by rw [List.length_take] at hj; omega
        have := (codeAt_ok.1 (h0 j hjk)).1.1
        rw [getD_take hjk]; omega) k (by rw [List.length_take]; have := Hl.out; omega)
      rwa [List.take_take, Nat.min_self] at hh
    obtain ⟨s0, s1⟩ := hsb
    have hwz := block_lt hT
    clear h0 hT
    by_cases hlt : k < n
    · have Hrd := Lib.hid (H.out.rd.up hbel (Nat.le_refl _))
      obtain ⟨A2, hrun, hrd2⟩ := slice_to elem_heldR sizeOf_heldR Hrd.out H.out.cap (m := k) (by omega)
      rw [← flatH_take] at hrd2
      have Hrd2 := Lib.hid hrd2
      clear hrd2
      obtain ⟨b, o, rfl, hbB, x0, x1, x2, x3, x4, x5, x6, x7, x8, x9, x10⟩ := Hrd.out.hd hlt
      have hd1 : decide ((k : Int) < (n : Int)) = true := decide_eq_true (by omega)
      have hki : (k : Int) < (n : Int) := by omega
      have hk15 : (k : Int) ≤ 15 := by omega
      have Hsz := Lib.hid hbel.size
      clear hbel
      by_cases hok : (p.held.getD k default).ok
      · have Hok := Lib.hid hok
        have Htw := Lib.hid (place_twice (l := p.held) (k := k) (by have := Hl.out; omega))
        have Hst := Lib.hid (sumL_take (l := p.held) (k := k) (by have := Hl.out; omega))
        obtain ⟨⟨o1, o2⟩, ⟨o3, o4⟩, o5, o6⟩ := hok
        generalize hhk : p.held.getD k default = h at *
        have Hhk := Lib.hid hhk
        clear hhk
        have c1 : posB h.am = true := posB_iff.2 ⟨o1, o2⟩
        have c2 : decide (h.fr < 0) = false := decide_eq_false (by omega)
        have c3 : decide (1 < h.fr) = false := decide_eq_false (by omega)
        have c4 : far h.un = true := far_iff.2 ⟨o5, o6⟩
        have HTa := Lib.hid (block_alloc HT'.out (.cells #[.int .u8 (h.nm.x0 : Int), .int .u8 (h.nm.x1 : Int), .int .u8 (h.nm.x2 : Int), .int .u8 (h.nm.x3 : Int), .int .u8 (h.nm.x4 : Int), .int .u8 (h.nm.x5 : Int), .int .u8 (h.nm.x6 : Int), .int .u8 (h.nm.x7 : Int), .int .i64 h.am, .int .i64 h.fr, .int .i64 h.un] 60))
        have HTh := Lib.hid (heap_alloc_new wr (.cells #[.int .u8 (h.nm.x0 : Int), .int .u8 (h.nm.x1 : Int), .int .u8 (h.nm.x2 : Int), .int .u8 (h.nm.x3 : Int), .int .u8 (h.nm.x4 : Int), .int .u8 (h.nm.x5 : Int), .int .u8 (h.nm.x6 : Int), .int .u8 (h.nm.x7 : Int), .int .i64 h.am, .int .i64 h.fr, .int .i64 h.un] 60))
        have Hbel2 := Lib.hid (Hbel.out.alloc Hsz.out (.cells #[.int .u8 (h.nm.x0 : Int), .int .u8 (h.nm.x1 : Int), .int .u8 (h.nm.x2 : Int), .int .u8 (h.nm.x3 : Int), .int .u8 (h.nm.x4 : Int), .int .u8 (h.nm.x5 : Int), .int .u8 (h.nm.x6 : Int), .int .u8 (h.nm.x7 : Int), .int .i64 h.am, .int .i64 h.fr, .int .i64 h.un] 60))
        have HAp : Hid (PuV.At ⟨nm0, 0, 0, 0, p.held.take k⟩ A2 k c (wr.alloc (.cells #[.int .u8 (h.nm.x0 : Int), .int .u8 (h.nm.x1 : Int), .int .u8 (h.nm.x2 : Int), .int .u8 (h.nm.x3 : Int), .int .u8 (h.nm.x4 : Int), .int .u8 (h.nm.x5 : Int), .int .u8 (h.nm.x6 : Int), .int .u8 (h.nm.x7 : Int), .int .i64 h.am, .int .i64 h.fr, .int .i64 h.un] 60))) := ⟨(Hrd2.out.alloc (Nat.le_refl _) _).more (by simp), by have := H.out.cap; omega, by omega⟩
        generalize sumL (p.held.take k) = s at *
        go_wp2_with (first
    | (go_at_call 24; refine (height_any _ _).mono ?_; rintro e w' ⟨rfl, rfl⟩)
    | (go_at_call 25; refine (rgtr_any _ _).mono ?_; rintro e w' ⟨rfl, rfl⟩)
    | (go_at_call 26; refine (pos_any _ _).mono ?_; rintro e w' ⟨rfl, rfl⟩))
        go_region_law (go_simp; go_at_call 27; go_must (refine (placer_any ⟨nm0, 0, 0, 0, p.held.take k⟩ A2 k c h.nm (wr.alloc (.cells #[.int .u8 (h.nm.x0 : Int), .int .u8 (h.nm.x1 : Int), .int .u8 (h.nm.x2 : Int), .int .u8 (h.nm.x3 : Int), .int .u8 (h.nm.x4 : Int), .int .u8 (h.nm.x5 : Int), .int .u8 (h.nm.x6 : Int), .int .u8 (h.nm.x7 : Int), .int .i64 h.am, .int .i64 h.fr, .int .i64 h.un] 60)).drew HAp.out.drew).mono ?_; rintro e w3 ⟨rfl, hb3⟩; have HT3 := Lib.hid (block_below (w := (wr.alloc (.cells #[.int .u8 (h.nm.x0 : Int), .int .u8 (h.nm.x1 : Int), .int .u8 (h.nm.x2 : Int), .int .u8 (h.nm.x3 : Int), .int .u8 (h.nm.x4 : Int), .int .u8 (h.nm.x5 : Int), .int .u8 (h.nm.x6 : Int), .int .u8 (h.nm.x7 : Int), .int .i64 h.am, .int .i64 h.fr, .int .i64 h.un] 60)).drew) HTa.out hb3 (block_lt HTa.out)); have HTh3 := Lib.hid (block_below (w := (wr.alloc (.cells #[.int .u8 (h.nm.x0 : Int), .int .u8 (h.nm.x1 : Int), .int .u8 (h.nm.x2 : Int), .int .u8 (h.nm.x3 : Int), .int .u8 (h.nm.x4 : Int), .int .u8 (h.nm.x5 : Int), .int .u8 (h.nm.x6 : Int), .int .u8 (h.nm.x7 : Int), .int .i64 h.am, .int .i64 h.fr, .int .i64 h.un] 60)).drew) HTh.out hb3 (block_lt HTh.out)); have Hb3 := Lib.hid (Hbel2.out.drew.trans (hb3.mono Hbel2.out.size)); clear hb3))
        all_goals
          clear x0 x1 x2 x3 x4 x5 x6 x7 x8 x9 x10 z0 z1 z2 z3 z4 z5 z6 z7 z8 z9 z10 z11
          obtain ⟨x0, x1, x2, x3, x4, x5, x6, x7, x8, x9, x10⟩ := HBox.all (h := h) HTh3.out
          obtain ⟨z0, z1, z2, z3, z4, z5, z6, z7, z8, z9, z10, z11⟩ := PBox.all HT3.out
          by_cases tw : 0 ≤ placeL (p.held.take k) h.nm
          · have t1 : decide (0 ≤ placeL (p.held.take k) h.nm) = true := decide_eq_true tw
            have htw : twiceB p.held k = true := by rw [Htw.out]; exact t1
            have Hr : Hid (p.check = 7) := by
              have h7 : codeAt p.held k = 7 := code_twice (by rw [Hhk.out]; exact Hok.out) htw
              exact check_held Hrng.out Hlong.out ((checkL_bad (by have := Hl.out; omega) H0.out (by rw [h7]; decide)).trans h7) (by decide)
            clear tw htw
            go_wp2
            go_ret
            exact ⟨by rw [Hr.out]; rfl, Hb3.out⟩
          · have t1 : decide (0 ≤ placeL (p.held.take k) h.nm) = false := decide_eq_false tw
            have htw : twiceB p.held k = false := by rw [Htw.out]; exact t1
            have Htwn := Lib.hid htw
            clear tw htw
            go_wp2
            go_roundw
            case rel =>
              refine ⟨k + 1, by omega, by go_num, by rw [Hst.out]; first | rfl | (congr 1; omega), fun j hj => ?_, HT3.out, Hb3.out⟩
              rcases Nat.lt_or_ge j k with h1 | h1
              · exact H0.out j h1
              · obtain rfl : j = k := by omega
                exact code_good (by rw [Hhk.out]; exact Hok.out) Htwn.out
            case measure => simp [intOf]; omega
      · have Hbad := Lib.hid hok
        have Hr : Hid (p.check = 2) := check_held Hrng.out Hlong.out ((checkL_bad (by have := Hl.out; omega) H0.out (by rw [code_bad Hbad.out]; decide)).trans (code_bad Hbad.out)) (by decide)
        by_cases c1 : posB (p.held.getD k default).am = false
        · generalize p.held.getD k default = h at *
          clear hok
          go_wp2_with (first
    | (go_at_call 24; refine (height_any _ _).mono ?_; rintro e w' ⟨rfl, rfl⟩)
    | (go_at_call 25; refine (rgtr_any _ _).mono ?_; rintro e w' ⟨rfl, rfl⟩)
    | (go_at_call 26; refine (pos_any _ _).mono ?_; rintro e w' ⟨rfl, rfl⟩))
          go_ret
          exact ⟨by rw [Hr.out]; rfl, Hbel.out.alloc Hbel.out.size _⟩
        replace c1 : posB (p.held.getD k default).am = true := by simpa using c1
        by_cases c2 : (p.held.getD k default).fr < 0
        · have c2' : decide ((p.held.getD k default).fr < 0) = true := decide_eq_true c2
          generalize p.held.getD k default = h at *
          clear hok c2
          go_wp2_with (first
    | (go_at_call 24; refine (height_any _ _).mono ?_; rintro e w' ⟨rfl, rfl⟩)
    | (go_at_call 25; refine (rgtr_any _ _).mono ?_; rintro e w' ⟨rfl, rfl⟩)
    | (go_at_call 26; refine (pos_any _ _).mono ?_; rintro e w' ⟨rfl, rfl⟩))
          go_ret
          exact ⟨by rw [Hr.out]; rfl, Hbel.out.alloc Hbel.out.size _⟩
        have c2' : decide ((p.held.getD k default).fr < 0) = false := decide_eq_false c2
        by_cases c3 : 1 < (p.held.getD k default).fr
        · have c3' : decide (1 < (p.held.getD k default).fr) = true := decide_eq_true c3
          generalize p.held.getD k default = h at *
          clear hok c2 c3
          go_wp2_with (first
    | (go_at_call 24; refine (height_any _ _).mono ?_; rintro e w' ⟨rfl, rfl⟩)
    | (go_at_call 25; refine (rgtr_any _ _).mono ?_; rintro e w' ⟨rfl, rfl⟩)
    | (go_at_call 26; refine (pos_any _ _).mono ?_; rintro e w' ⟨rfl, rfl⟩))
          go_ret
          exact ⟨by rw [Hr.out]; rfl, Hbel.out.alloc Hbel.out.size _⟩
        have c3' : decide (1 < (p.held.getD k default).fr) = false := decide_eq_false c3
        have c4 : far (p.held.getD k default).un = false := by
          rw [far_no]
          intro hf
          have := posB_iff.1 c1
          exact hok ⟨this, ⟨by omega, by omega⟩, hf⟩
        generalize p.held.getD k default = h at *
        clear hok c2 c3
        go_wp2_with (first
    | (go_at_call 24; refine (height_any _ _).mono ?_; rintro e w' ⟨rfl, rfl⟩)
    | (go_at_call 25; refine (rgtr_any _ _).mono ?_; rintro e w' ⟨rfl, rfl⟩)
    | (go_at_call 26; refine (pos_any _ _).mono ?_; rintro e w' ⟨rfl, rfl⟩))
        go_ret
        exact ⟨by rw [Hr.out]; rfl, Hbel.out.alloc Hbel.out.size _⟩
    · have hkn : k = n := by omega
      subst hkn
      have hd1 : decide ((k : Int) < (k : Int)) = false := decide_eq_false (by omega)
      have h3 : checkL p.held = 0 := checkL_good (fun j hj => H0.out j (by have := Hl.out; omega))
      have Hs := Lib.hid (check_sum Hrng.out Hlong.out h3)
      have e : p.held.take k = p.held := List.take_of_length_le (by have := Hl.out; omega)
      rw [e] at *
      have Hsm : Hid (p.sum = p.h0 + p.h1 + sumL p.held) := by show _ = _; rfl
      rw [Hsm.out] at Hs
      clear h3 hlt hbel e Hsm
      generalize sumL p.held = s at *
      by_cases hs : rgt (p.h0 + p.h1 + s) = true
      · have hs' := hs
        rw [hs'] at Hs
        clear hs'
        go_wp2_with (go_at_call 25; refine (rgtr_any _ _).mono ?_; rintro e w' ⟨rfl, rfl⟩)
        go_ret
        exact ⟨by rw [Hs.out]; rfl, Hbel.out⟩
      · replace hs : rgt (p.h0 + p.h1 + s) = false := by simpa using hs
        have hs' := hs
        rw [hs'] at Hs
        clear hs'
        go_wp2_with (go_at_call 25; refine (rgtr_any _ _).mono ?_; rintro e w' ⟨rfl, rfl⟩)
        go_ret
        exact ⟨by rw [Hs.out]; rfl, Hbel.out⟩
end Go.Proofs.Ythjpaclcoipocaa
