/- The walks of a plan's deeds of one tick, of one player, without one kind. Condition: a bound on how many deeds. -/
import Derived.Test.YtigolkdclacikaaDoorChB
namespace Go.Proofs.YtigolkdclacikaaDoor
open Go.RowKit Go.Lib
def isT (v : Int) (d : De) : Bool := d.t == v
def isW (v : Int) (d : De) : Bool := d.w == v
def isNotK (v : Int) (d : De) : Bool := d.k != v
theorem filt_yes {l : List De} {k : Nat} {p : De → Bool} (hk : k < l.length) (h : p (l.getD k default) = true) : (l.take (k + 1)).filter p = (l.take k).filter p ++ [l.getD k default] := by
  rw [take_de hk, List.filter_append]; generalize l.getD k default = d at *; simp [h]
theorem filt_no {l : List De} {k : Nat} {p : De → Bool} (hk : k < l.length) (h : p (l.getD k default) = false) : (l.take (k + 1)).filter p = (l.take k).filter p := by
  rw [take_de hk, List.filter_append]; generalize l.getD k default = d at *; simp [h]
theorem at_one (v : Int) (d : De) (q : Nat) (w : World) (hc : w.cell? ⟨q, 0, none⟩ = some (.int .i64 v)) (hq : q < w.heap.size) :
    Calls Tryd.prog 29 #[.agg #[.int .i64 d.t, .int .i64 d.k, .int .i64 d.w, .int .i64 d.a, .int .i64 d.b], .pointer (some ⟨q, 0, none⟩)] w fun e w' => e = .returned (.bool (isT v d)) ∧ Below w.heap.size w w' := by
  obtain ⟨t, kd, wh, a, b'⟩ := d
  go_enter Tryd.func29, Tryd.ntmps29
  go_wp2
  go_ret
  exact ⟨rfl, below_one w _⟩
set_option maxRecDepth 100000 in
set_option maxHeartbeats 1000000 in
theorem at_those (v : Int) (q : Nat) (A : Option Addr) (n c : Nat) (l : List De) (w : World) (hc : w.cell? ⟨q, 0, none⟩ = some (.int .i64 v)) (hq : q < w.heap.size) (hr : Rd w w.heap.size 5 A n (flat l)) (hn : n ≤ 1000000) :
    Calls Tryd.prog 28 #[.slice A n c, .func (.func 29) #[] #[.pointer (some ⟨q, 0, none⟩)]] w (GivesDe w (l.filter (isT v))) := by
  obtain ⟨i0, hi, hz0, hz1, hz2⟩ := info_parts info_De
  have HI := Lib.hid (And.intro hi (And.intro hz0 (And.intro hz1 hz2))); clear hi hz0 hz1 hz2
  have Hl := Lib.hid hr.dlen
  have Hr := Lib.hid hr
  clear hr
  go_enter Tryd.func28, Tryd.ntmps28
  go_wp2
  go_loopw [5, 10] (fun v5 i wr => ∃ (k n5 : Nat), k ≤ n ∧ i = .int .i64 (k : Int) ∧ n5 ≤ k ∧ wr.ownsRow w.heap.size 46 5 v5 n5 (flat ((l.take k).filter (isT v))) ∧ Below w.heap.size w wr) (fun _ i _ => n - (intOf i).toNat)
  case atStart => exact ⟨0, 0, Nat.zero_le _, rfl, Nat.le_refl _, World.ownsRow_nil _ _ _ _, Below.refl _ _⟩
  case round =>
    obtain ⟨k, n5, hk, rfl, hn5, hown, hbel⟩ := hrel
    obtain ⟨A', c', rfl⟩ := own_form hown
    by_cases hlt : k < n
    · obtain ⟨b, o, rfl, hbB, x0, x1, x2, x3, x4⟩ := (Hr.out.below hbel (Nat.le_refl _)).de hlt
      have Hy := Lib.hid (filt_yes (l := l) (k := k) (p := isT v) (by have := Hl.out; omega))
      have Hn := Lib.hid (filt_no (l := l) (k := k) (p := isT v) (by have := Hl.out; omega))
      generalize l.getD k default = d at *
      obtain ⟨t, kd, wh, a, b'⟩ := d
      simp only at x0 x1 x2 x3 x4
      have hsz := hbel.size
      have hi0 : (0 : Int) ≤ (k : Int) := by omega
      have hi1 : (k : Int) < (n : Int) := by omega
      have hb2 := hbel.alloc hsz (.cells #[.int .i64 t, .int .i64 kd, .int .i64 wh, .int .i64 a, .int .i64 b'] 46)
      have hcc := ((bcell hb2).1 q 0 hq).trans hc
      have hbx := heap_alloc_new wr (.cells #[.int .i64 t, .int .i64 kd, .int .i64 wh, .int .i64 a, .int .i64 b'] 46)
      have Hown := Lib.hid (hown.alloc (.cells #[.int .i64 t, .int .i64 kd, .int .i64 wh, .int .i64 a, .int .i64 b'] 46))
      have Hb2 := Lib.hid hb2
      clear hown hbel hb2
      have hone := at_one v ⟨t, kd, wh, a, b'⟩ q (wr.alloc (.cells #[.int .i64 t, .int .i64 kd, .int .i64 wh, .int .i64 a, .int .i64 b'] 46)) hcc (by simp; omega)
      cases hp : isT v ⟨t, kd, wh, a, b'⟩ with
      | true =>
        go_wp2_with fail
        refine hone.mono ?_
        rintro e w4 ⟨rfl, hb4⟩
        rw [hp]
        have hbx4 := block_below hbx hb4 (by simp)
        have Hown4 := Lib.hid (own_below Hown.out hb4)
        have Hb4 := Lib.hid (Hb2.out.trans (hb4.mono (by simp; omega)))
        have z0 := block_cell hbx4 0; have z1 := block_cell hbx4 1; have z2 := block_cell hbx4 2; have z3 := block_cell hbx4 3; have z4 := block_cell hbx4 4
        have hlt4 := block_lt hbx4
        simp at z0 z1 z2 z3 z4
        clear hb4 hbx4 hone hbx hcc
        go_wp2_with (at_builtin; go_must (refine wpList_append_lit w4 (by rfl) _ _ 28 (by rfl) w.heap.size 46 i0 (.agg #[.int .i64 0, .int .i64 0, .int .i64 0, .int .i64 0, .int .i64 0]) 5 40 Tryd.underlying28 HI.out rfl (by decide) _ _ _ (by rfl) Hown4.out 1 1 #[.int .i64 t, .int .i64 kd, .int .i64 wh, .int .i64 a, .int .i64 b'] 46 (by simp [Act.eval]) rfl (by simp [Value.oneCell']) (by omega) (by omega) (by omega) ?_); intro v5 w5 hown5 hbel5; have Hown5 := Lib.hid hown5; have Hb5 := Lib.hid (Hb4.out.trans hbel5); clear hown5 hbel5)
        go_roundw
        case rel => exact ⟨k + 1, n5 + 1, by omega, by go_num, by omega, by rw [Hy.out hp, flat_append]; exact Hown5.out, Hb5.out⟩
        case measure => simp [intOf]; omega
      | false =>
        go_wp2_with fail
        refine hone.mono ?_
        rintro e w4 ⟨rfl, hb4⟩
        rw [hp]
        have Hown4 := Lib.hid (own_below Hown.out hb4)
        have Hb4 := Lib.hid (Hb2.out.trans (hb4.mono (by simp; omega)))
        clear hb4 hone hbx hcc
        go_wp2
        go_roundw
        case rel => exact ⟨k + 1, n5, by omega, by go_num, by omega, by rw [Hn.out hp]; exact Hown4.out, Hb4.out⟩
        case measure => simp [intOf]; omega
    · have hkn : k = n := by omega
      have Hown := Lib.hid hown; have Hbel := Lib.hid hbel; have Hk := Lib.hid hkn
      clear hown hbel hkn
      go_wp2
      go_ret
      have e : l.take k = l := List.take_of_length_le (by have := Hl.out; have := Hk.out; omega)
      have ho := Hown.out
      rw [e] at ho
      exact ⟨A', n5, c', rfl, Rd.of_own ho, by have := ho.1; rw [flat_len] at this; omega, Hbel.out⟩
set_option maxRecDepth 100000 in
theorem at_any (v : Int) (A : Option Addr) (n c : Nat) (l : List De) (w : World) (hr : Rd w w.heap.size 5 A n (flat l)) (hn : n ≤ 1000000) :
    Calls Tryd.prog 17 #[.slice A n c, .int .i64 v] w (GivesDe w (l.filter (isT v))) := by
  have hr1 := (hr.alloc (Nat.le_refl _) (.cells #[.int .i64 v] 3)).more (B' := (w.alloc (.cells #[.int .i64 v] 3)).heap.size) (by simp)
  have hc : (w.alloc (.cells #[.int .i64 v] 3)).cell? ⟨w.heap.size, 0, none⟩ = some (.int .i64 v) := block_cell (heap_alloc_new w _) 0
  go_enter Tryd.func17, Tryd.ntmps17
  go_wp2_with fail
  refine (at_those v w.heap.size A n c l _ hc (by simp) hr1 hn).mono ?_
  rintro e w1 ⟨A1, n1, c1, rfl, h1, h2, h3⟩
  have H1 := Lib.hid h1; have H2 := Lib.hid h2; have H3 := Lib.hid ((below_one w _).trans (h3.mono (by simp)))
  clear h1 h2 h3
  go_wp2
  go_ret
  exact ⟨A1, n1, c1, rfl, H1.out, H2.out, H3.out⟩
theorem of_one (v : Int) (d : De) (q : Nat) (w : World) (hc : w.cell? ⟨q, 0, none⟩ = some (.int .i64 v)) (hq : q < w.heap.size) :
    Calls Tryd.prog 30 #[.agg #[.int .i64 d.t, .int .i64 d.k, .int .i64 d.w, .int .i64 d.a, .int .i64 d.b], .pointer (some ⟨q, 0, none⟩)] w fun e w' => e = .returned (.bool (isW v d)) ∧ Below w.heap.size w w' := by
  obtain ⟨t, kd, wh, a, b'⟩ := d
  go_enter Tryd.func30, Tryd.ntmps30
  go_wp2
  go_ret
  exact ⟨rfl, below_one w _⟩
set_option maxRecDepth 100000 in
set_option maxHeartbeats 1000000 in
theorem of_those (v : Int) (q : Nat) (A : Option Addr) (n c : Nat) (l : List De) (w : World) (hc : w.cell? ⟨q, 0, none⟩ = some (.int .i64 v)) (hq : q < w.heap.size) (hr : Rd w w.heap.size 5 A n (flat l)) (hn : n ≤ 1000000) :
    Calls Tryd.prog 28 #[.slice A n c, .func (.func 30) #[] #[.pointer (some ⟨q, 0, none⟩)]] w (GivesDe w (l.filter (isW v))) := by
  obtain ⟨i0, hi, hz0, hz1, hz2⟩ := info_parts info_De
  have HI := Lib.hid (And.intro hi (And.intro hz0 (And.intro hz1 hz2))); clear hi hz0 hz1 hz2
  have Hl := Lib.hid hr.dlen
  have Hr := Lib.hid hr
  clear hr
  go_enter Tryd.func28, Tryd.ntmps28
  go_wp2
  go_loopw [5, 10] (fun v5 i wr => ∃ (k n5 : Nat), k ≤ n ∧ i = .int .i64 (k : Int) ∧ n5 ≤ k ∧ wr.ownsRow w.heap.size 46 5 v5 n5 (flat ((l.take k).filter (isW v))) ∧ Below w.heap.size w wr) (fun _ i _ => n - (intOf i).toNat)
  case atStart => exact ⟨0, 0, Nat.zero_le _, rfl, Nat.le_refl _, World.ownsRow_nil _ _ _ _, Below.refl _ _⟩
  case round =>
    obtain ⟨k, n5, hk, rfl, hn5, hown, hbel⟩ := hrel
    obtain ⟨A', c', rfl⟩ := own_form hown
    by_cases hlt : k < n
    · obtain ⟨b, o, rfl, hbB, x0, x1, x2, x3, x4⟩ := (Hr.out.below hbel (Nat.le_refl _)).de hlt
      have Hy := Lib.hid (filt_yes (l := l) (k := k) (p := isW v) (by have := Hl.out; omega))
      have Hn := Lib.hid (filt_no (l := l) (k := k) (p := isW v) (by have := Hl.out; omega))
      generalize l.getD k default = d at *
      obtain ⟨t, kd, wh, a, b'⟩ := d
      simp only at x0 x1 x2 x3 x4
      have hsz := hbel.size
      have hi0 : (0 : Int) ≤ (k : Int) := by omega
      have hi1 : (k : Int) < (n : Int) := by omega
      have hb2 := hbel.alloc hsz (.cells #[.int .i64 t, .int .i64 kd, .int .i64 wh, .int .i64 a, .int .i64 b'] 46)
      have hcc := ((bcell hb2).1 q 0 hq).trans hc
      have hbx := heap_alloc_new wr (.cells #[.int .i64 t, .int .i64 kd, .int .i64 wh, .int .i64 a, .int .i64 b'] 46)
      have Hown := Lib.hid (hown.alloc (.cells #[.int .i64 t, .int .i64 kd, .int .i64 wh, .int .i64 a, .int .i64 b'] 46))
      have Hb2 := Lib.hid hb2
      clear hown hbel hb2
      have hone := of_one v ⟨t, kd, wh, a, b'⟩ q (wr.alloc (.cells #[.int .i64 t, .int .i64 kd, .int .i64 wh, .int .i64 a, .int .i64 b'] 46)) hcc (by simp; omega)
      cases hp : isW v ⟨t, kd, wh, a, b'⟩ with
      | true =>
        go_wp2_with fail
        refine hone.mono ?_
        rintro e w4 ⟨rfl, hb4⟩
        rw [hp]
        have hbx4 := block_below hbx hb4 (by simp)
        have Hown4 := Lib.hid (own_below Hown.out hb4)
        have Hb4 := Lib.hid (Hb2.out.trans (hb4.mono (by simp; omega)))
        have z0 := block_cell hbx4 0; have z1 := block_cell hbx4 1; have z2 := block_cell hbx4 2; have z3 := block_cell hbx4 3; have z4 := block_cell hbx4 4
        have hlt4 := block_lt hbx4
        simp at z0 z1 z2 z3 z4
        clear hb4 hbx4 hone hbx hcc
        go_wp2_with (at_builtin; go_must (refine wpList_append_lit w4 (by rfl) _ _ 28 (by rfl) w.heap.size 46 i0 (.agg #[.int .i64 0, .int .i64 0, .int .i64 0, .int .i64 0, .int .i64 0]) 5 40 Tryd.underlying28 HI.out rfl (by decide) _ _ _ (by rfl) Hown4.out 1 1 #[.int .i64 t, .int .i64 kd, .int .i64 wh, .int .i64 a, .int .i64 b'] 46 (by simp [Act.eval]) rfl (by simp [Value.oneCell']) (by omega) (by omega) (by omega) ?_); intro v5 w5 hown5 hbel5; have Hown5 := Lib.hid hown5; have Hb5 := Lib.hid (Hb4.out.trans hbel5); clear hown5 hbel5)
        go_roundw
        case rel => exact ⟨k + 1, n5 + 1, by omega, by go_num, by omega, by rw [Hy.out hp, flat_append]; exact Hown5.out, Hb5.out⟩
        case measure => simp [intOf]; omega
      | false =>
        go_wp2_with fail
        refine hone.mono ?_
        rintro e w4 ⟨rfl, hb4⟩
        rw [hp]
        have Hown4 := Lib.hid (own_below Hown.out hb4)
        have Hb4 := Lib.hid (Hb2.out.trans (hb4.mono (by simp; omega)))
        clear hb4 hone hbx hcc
        go_wp2
        go_roundw
        case rel => exact ⟨k + 1, n5, by omega, by go_num, by omega, by rw [Hn.out hp]; exact Hown4.out, Hb4.out⟩
        case measure => simp [intOf]; omega
    · have hkn : k = n := by omega
      have Hown := Lib.hid hown; have Hbel := Lib.hid hbel; have Hk := Lib.hid hkn
      clear hown hbel hkn
      go_wp2
      go_ret
      have e : l.take k = l := List.take_of_length_le (by have := Hl.out; have := Hk.out; omega)
      have ho := Hown.out
      rw [e] at ho
      exact ⟨A', n5, c', rfl, Rd.of_own ho, by have := ho.1; rw [flat_len] at this; omega, Hbel.out⟩
set_option maxRecDepth 100000 in
theorem of_any (v : Int) (A : Option Addr) (n c : Nat) (l : List De) (w : World) (hr : Rd w w.heap.size 5 A n (flat l)) (hn : n ≤ 1000000) :
    Calls Tryd.prog 18 #[.slice A n c, .int .i64 v] w (GivesDe w (l.filter (isW v))) := by
  have hr1 := (hr.alloc (Nat.le_refl _) (.cells #[.int .i64 v] 3)).more (B' := (w.alloc (.cells #[.int .i64 v] 3)).heap.size) (by simp)
  have hc : (w.alloc (.cells #[.int .i64 v] 3)).cell? ⟨w.heap.size, 0, none⟩ = some (.int .i64 v) := block_cell (heap_alloc_new w _) 0
  go_enter Tryd.func18, Tryd.ntmps18
  go_wp2_with fail
  refine (of_those v w.heap.size A n c l _ hc (by simp) hr1 hn).mono ?_
  rintro e w1 ⟨A1, n1, c1, rfl, h1, h2, h3⟩
  have H1 := Lib.hid h1; have H2 := Lib.hid h2; have H3 := Lib.hid ((below_one w _).trans (h3.mono (by simp)))
  clear h1 h2 h3
  go_wp2
  go_ret
  exact ⟨A1, n1, c1, rfl, H1.out, H2.out, H3.out⟩
theorem without_one (v : Int) (d : De) (q : Nat) (w : World) (hc : w.cell? ⟨q, 0, none⟩ = some (.int .i64 v)) (hq : q < w.heap.size) :
    Calls Tryd.prog 31 #[.agg #[.int .i64 d.t, .int .i64 d.k, .int .i64 d.w, .int .i64 d.a, .int .i64 d.b], .pointer (some ⟨q, 0, none⟩)] w fun e w' => e = .returned (.bool (isNotK v d)) ∧ Below w.heap.size w w' := by
  obtain ⟨t, kd, wh, a, b'⟩ := d
  go_enter Tryd.func31, Tryd.ntmps31
  go_wp2
  go_ret
  exact ⟨rfl, below_one w _⟩
set_option maxRecDepth 100000 in
set_option maxHeartbeats 1000000 in
theorem without_those (v : Int) (q : Nat) (A : Option Addr) (n c : Nat) (l : List De) (w : World) (hc : w.cell? ⟨q, 0, none⟩ = some (.int .i64 v)) (hq : q < w.heap.size) (hr : Rd w w.heap.size 5 A n (flat l)) (hn : n ≤ 1000000) :
    Calls Tryd.prog 28 #[.slice A n c, .func (.func 31) #[] #[.pointer (some ⟨q, 0, none⟩)]] w (GivesDe w (l.filter (isNotK v))) := by
  obtain ⟨i0, hi, hz0, hz1, hz2⟩ := info_parts info_De
  have HI := Lib.hid (And.intro hi (And.intro hz0 (And.intro hz1 hz2))); clear hi hz0 hz1 hz2
  have Hl := Lib.hid hr.dlen
  have Hr := Lib.hid hr
  clear hr
  go_enter Tryd.func28, Tryd.ntmps28
  go_wp2
  go_loopw [5, 10] (fun v5 i wr => ∃ (k n5 : Nat), k ≤ n ∧ i = .int .i64 (k : Int) ∧ n5 ≤ k ∧ wr.ownsRow w.heap.size 46 5 v5 n5 (flat ((l.take k).filter (isNotK v))) ∧ Below w.heap.size w wr) (fun _ i _ => n - (intOf i).toNat)
  case atStart => exact ⟨0, 0, Nat.zero_le _, rfl, Nat.le_refl _, World.ownsRow_nil _ _ _ _, Below.refl _ _⟩
  case round =>
    obtain ⟨k, n5, hk, rfl, hn5, hown, hbel⟩ := hrel
    obtain ⟨A', c', rfl⟩ := own_form hown
    by_cases hlt : k < n
    · obtain ⟨b, o, rfl, hbB, x0, x1, x2, x3, x4⟩ := (Hr.out.below hbel (Nat.le_refl _)).de hlt
      have Hy := Lib.hid (filt_yes (l := l) (k := k) (p := isNotK v) (by have := Hl.out; omega))
      have Hn := Lib.hid (filt_no (l := l) (k := k) (p := isNotK v) (by have := Hl.out; omega))
      generalize l.getD k default = d at *
      obtain ⟨t, kd, wh, a, b'⟩ := d
      simp only at x0 x1 x2 x3 x4
      have hsz := hbel.size
      have hi0 : (0 : Int) ≤ (k : Int) := by omega
      have hi1 : (k : Int) < (n : Int) := by omega
      have hb2 := hbel.alloc hsz (.cells #[.int .i64 t, .int .i64 kd, .int .i64 wh, .int .i64 a, .int .i64 b'] 46)
      have hcc := ((bcell hb2).1 q 0 hq).trans hc
      have hbx := heap_alloc_new wr (.cells #[.int .i64 t, .int .i64 kd, .int .i64 wh, .int .i64 a, .int .i64 b'] 46)
      have Hown := Lib.hid (hown.alloc (.cells #[.int .i64 t, .int .i64 kd, .int .i64 wh, .int .i64 a, .int .i64 b'] 46))
      have Hb2 := Lib.hid hb2
      clear hown hbel hb2
      have hone := without_one v ⟨t, kd, wh, a, b'⟩ q (wr.alloc (.cells #[.int .i64 t, .int .i64 kd, .int .i64 wh, .int .i64 a, .int .i64 b'] 46)) hcc (by simp; omega)
      cases hp : isNotK v ⟨t, kd, wh, a, b'⟩ with
      | true =>
        go_wp2_with fail
        refine hone.mono ?_
        rintro e w4 ⟨rfl, hb4⟩
        rw [hp]
        have hbx4 := block_below hbx hb4 (by simp)
        have Hown4 := Lib.hid (own_below Hown.out hb4)
        have Hb4 := Lib.hid (Hb2.out.trans (hb4.mono (by simp; omega)))
        have z0 := block_cell hbx4 0; have z1 := block_cell hbx4 1; have z2 := block_cell hbx4 2; have z3 := block_cell hbx4 3; have z4 := block_cell hbx4 4
        have hlt4 := block_lt hbx4
        simp at z0 z1 z2 z3 z4
        clear hb4 hbx4 hone hbx hcc
        go_wp2_with (at_builtin; go_must (refine wpList_append_lit w4 (by rfl) _ _ 28 (by rfl) w.heap.size 46 i0 (.agg #[.int .i64 0, .int .i64 0, .int .i64 0, .int .i64 0, .int .i64 0]) 5 40 Tryd.underlying28 HI.out rfl (by decide) _ _ _ (by rfl) Hown4.out 1 1 #[.int .i64 t, .int .i64 kd, .int .i64 wh, .int .i64 a, .int .i64 b'] 46 (by simp [Act.eval]) rfl (by simp [Value.oneCell']) (by omega) (by omega) (by omega) ?_); intro v5 w5 hown5 hbel5; have Hown5 := Lib.hid hown5; have Hb5 := Lib.hid (Hb4.out.trans hbel5); clear hown5 hbel5)
        go_roundw
        case rel => exact ⟨k + 1, n5 + 1, by omega, by go_num, by omega, by rw [Hy.out hp, flat_append]; exact Hown5.out, Hb5.out⟩
        case measure => simp [intOf]; omega
      | false =>
        go_wp2_with fail
        refine hone.mono ?_
        rintro e w4 ⟨rfl, hb4⟩
        rw [hp]
        have Hown4 := Lib.hid (own_below Hown.out hb4)
        have Hb4 := Lib.hid (Hb2.out.trans (hb4.mono (by simp; omega)))
        clear hb4 hone hbx hcc
        go_wp2
        go_roundw
        case rel => exact ⟨k + 1, n5, by omega, by go_num, by omega, by rw [Hn.out hp]; exact Hown4.out, Hb4.out⟩
        case measure => simp [intOf]; omega
    · have hkn : k = n := by omega
      have Hown := Lib.hid hown; have Hbel := Lib.hid hbel; have Hk := Lib.hid hkn
      clear hown hbel hkn
      go_wp2
      go_ret
      have e : l.take k = l := List.take_of_length_le (by have := Hl.out; have := Hk.out; omega)
      have ho := Hown.out
      rw [e] at ho
      exact ⟨A', n5, c', rfl, Rd.of_own ho, by have := ho.1; rw [flat_len] at this; omega, Hbel.out⟩
set_option maxRecDepth 100000 in
theorem without_any (v : Int) (A : Option Addr) (n c : Nat) (l : List De) (w : World) (hr : Rd w w.heap.size 5 A n (flat l)) (hn : n ≤ 1000000) :
    Calls Tryd.prog 19 #[.slice A n c, .int .i64 v] w (GivesDe w (l.filter (isNotK v))) := by
  have hr1 := (hr.alloc (Nat.le_refl _) (.cells #[.int .i64 v] 3)).more (B' := (w.alloc (.cells #[.int .i64 v] 3)).heap.size) (by simp)
  have hc : (w.alloc (.cells #[.int .i64 v] 3)).cell? ⟨w.heap.size, 0, none⟩ = some (.int .i64 v) := block_cell (heap_alloc_new w _) 0
  go_enter Tryd.func19, Tryd.ntmps19
  go_wp2_with fail
  refine (without_those v w.heap.size A n c l _ hc (by simp) hr1 hn).mono ?_
  rintro e w1 ⟨A1, n1, c1, rfl, h1, h2, h3⟩
  have H1 := Lib.hid h1; have H2 := Lib.hid h2; have H3 := Lib.hid ((below_one w _).trans (h3.mono (by simp)))
  clear h1 h2 h3
  go_wp2
  go_ret
  exact ⟨A1, n1, c1, rfl, H1.out, H2.out, H3.out⟩
end Go.Proofs.YtigolkdclacikaaDoor
