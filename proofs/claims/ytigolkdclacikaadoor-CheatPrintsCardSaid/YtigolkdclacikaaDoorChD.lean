/- The walk of the reference's Check, and of alike. Condition: a bound on how many deeds. -/
import Derived.Test.YtigolkdclacikaaDoorChC
namespace Go.Proofs.YtigolkdclacikaaDoor
open Go.RowKit Go.Lib
theorem inD_bad {n most : Int} (h : inD n most = false) : n < 0 ∨ (0 ≤ n ∧ most < n) := by
  rcases Int.lt_or_le n 0 with h0 | h0
  · exact .inl h0
  · right
    refine ⟨h0, ?_⟩
    rcases Int.lt_or_le most n with h1 | h1
    · exact h1
    · rw [inD_yes h0 h1] at h; simp at h
set_option maxRecDepth 100000 in
set_option maxHeartbeats 4000000 in
theorem checkr_any (A : Option Addr) (n c : Nat) (l : List De) (p : Int) (w : World) (hr : Rd w w.heap.size 5 A n (flat l)) (hn : n ≤ 1000000) :
    Calls Tryd.prog 14 #[.slice A n c, .int .i64 p] w fun e w' => e = .returned (.int .i64 (checkD l p)) ∧ Below w.heap.size w w' := by
  have Hl := Lib.hid hr.dlen
  have Hr := Lib.hid hr
  clear hr
  by_cases hp : p < 1
  · have Hc := Lib.hid (check_who (l := l) (.inl hp))
    have d1 : decide (p < 1) = true := decide_eq_true hp
    clear hp
    go_enter Tryd.func14, Tryd.ntmps14
    go_wp2
    go_ret
    exact ⟨by rw [Hc.out]; rfl, Below.refl _ _⟩
  have d1 : decide (p < 1) = false := decide_eq_false hp
  by_cases hp' : 16 < p
  · have Hc := Lib.hid (check_who (l := l) (.inr hp'))
    have d2 : decide (16 < p) = true := decide_eq_true hp'
    clear hp hp'
    go_enter Tryd.func14, Tryd.ntmps14
    go_wp2
    go_ret
    exact ⟨by rw [Hc.out]; rfl, Below.refl _ _⟩
  have d2 : decide (16 < p) = false := decide_eq_false hp'
  have hno : ¬ (p < 1 ∨ 16 < p) := by omega
  have Hno := Lib.hid hno
  by_cases hbig : 256 < n
  · have Hc := Lib.hid (check_many (l := l) (players := p) hno (by have := Hl.out; omega))
    have hd : decide ((256 : Int) < (n : Int)) = true := decide_eq_true (by omega)
    clear hno
    go_enter Tryd.func14, Tryd.ntmps14
    go_wp2
    go_ret
    exact ⟨by rw [Hc.out]; rfl, Below.refl _ _⟩
  have hd : decide ((256 : Int) < (n : Int)) = false := decide_eq_false (by omega)
  have Hno2 : Hid (¬ 256 < l.length) := by show ¬ _; have := Hl.out; omega
  clear hbig hno
  go_enter Tryd.func14, Tryd.ntmps14
  go_wp2
  go_loopw [5] (fun i wr => ∃ k : Nat, k ≤ n ∧ i = .int .i64 (k : Int) ∧ (∀ j, j < k → dErr l p j = 0) ∧ Below w.heap.size w wr) (fun i _ => n - (intOf i).toNat)
  case atStart => exact ⟨0, Nat.zero_le _, rfl, fun j hj => absurd hj (by omega), Below.refl _ _⟩
  case round =>
    obtain ⟨k, hk, rfl, h0, hbel⟩ := hrel
    have H0 := Lib.hid h0; clear h0
    by_cases hlt : k < n
    · obtain ⟨b, o, rfl, hbB, x0, x1, x2, x3, x4⟩ := (Hr.out.below hbel (Nat.le_refl _)).de hlt
      have hprev : ∀ j, k = j + 1 → wr.cell? ⟨b, o + j * 5, none⟩ = some (.int .i64 (l.getD j default).t) := fun j hj => by
        obtain ⟨b2, o2, e2, _, y0, _⟩ := (Hr.out.below hbel (Nat.le_refl _)).de (k := j) (by omega)
        simp only [Option.some.injEq, Addr.mk.injEq, and_true] at e2
        obtain ⟨rfl, rfl⟩ := e2
        exact y0
      have dt := Lib.hid (dErr_t (l := l) (p := p) (i := k))
      have dold := Lib.hid (dErr_old (l := l) (p := p) (i := k))
      have dk := Lib.hid (dErr_k (l := l) (p := p) (i := k))
      have dw := Lib.hid (dErr_w (l := l) (p := p) (i := k))
      have dn := Lib.hid (dErr_n (l := l) (p := p) (i := k))
      have dz := Lib.hid (dErr_0 (l := l) (p := p) (i := k))
      generalize l.getD k default = dd at *
      obtain ⟨t, kd, wh, a, b'⟩ := dd
      simp only at x0 x1 x2 x3 x4 dt dold dk dw dn dz
      have hsz := hbel.size
      have hi0 : (0 : Int) ≤ (k : Int) := by omega
      have hi1 : (k : Int) < (n : Int) := by omega
      have Hbel := Lib.hid (hbel.alloc hsz (.cells #[.int .i64 t, .int .i64 kd, .int .i64 wh, .int .i64 a, .int .i64 b'] 35))
      have hbb : ∀ o', (wr.alloc (.cells #[.int .i64 t, .int .i64 kd, .int .i64 wh, .int .i64 a, .int .i64 b'] 35)).cell? ⟨b, o', none⟩ = wr.cell? ⟨b, o', none⟩ := fun o' => (bcell (below_one wr _)).1 b o' (by omega)
      cases h1 : inD t 1048576 with
      | false =>
        have Hd := Lib.hid (dt.out h1)
        clear hbel hbb dt dold hprev
        rcases inD_bad h1 with hA | ⟨hA, hB⟩
        · have f1 : decide (t < 0) = true := decide_eq_true hA
          clear hA dk dw dn dz
          go_wp2
          have Hc := Lib.hid (check_bad Hno.out Hno2.out (by have := Hl.out; omega) H0.out (by rw [Hd.out]; decide))
          go_ret
          first
            | exact ⟨by rw [Hc.out, Hd.out]; rfl, Hbel.out⟩
            | exact ⟨by rw [Hc.out, Hd.out]; rfl, Hbel.out.drew⟩
        · have f1 : decide (t < 0) = false := decide_eq_false (by omega)
          have f2 : decide (1048576 < t) = true := decide_eq_true hB
          clear hA hB dk dw dn dz
          go_wp2
          have Hc := Lib.hid (check_bad Hno.out Hno2.out (by have := Hl.out; omega) H0.out (by rw [Hd.out]; decide))
          go_ret
          first
            | exact ⟨by rw [Hc.out, Hd.out]; rfl, Hbel.out⟩
            | exact ⟨by rw [Hc.out, Hd.out]; rfl, Hbel.out.drew⟩
      | true =>
        have t1 : decide (t < 0) = false := decide_eq_false (by have := (inD_iff.1 h1).1; omega)
        have t2 : decide (1048576 < t) = false := decide_eq_false (by have := (inD_iff.1 h1).2; omega)
        by_cases hk0 : k = 0
        · subst hk0
          simp only [Nat.zero_mul, Nat.add_zero] at x0 x1 x2 x3 x4
          have h2 : ¬ (0 < 0 ∧ t < (l.getD (0 - 1) default).t) := by simp
          have hq : decide ((0 : Int) < 0) = false := by decide
          clear hprev hbel dt dold
          go_wp2
          go_region
          all_goals
            cases h3 : inD kd 14 with
            | false =>
              have Hd := Lib.hid (dk.out h1 h2 h3)
              rcases inD_bad h3 with hA | ⟨hA, hB⟩
              · have f1 : decide (kd < 0) = true := decide_eq_true hA
                clear hA dk dw dn dz
                go_wp2
                have Hc := Lib.hid (check_bad Hno.out Hno2.out (by have := Hl.out; omega) H0.out (by rw [Hd.out]; decide))
                go_ret
                first
                  | exact ⟨by rw [Hc.out, Hd.out]; rfl, Hbel.out⟩
                  | exact ⟨by rw [Hc.out, Hd.out]; rfl, Hbel.out.drew⟩
              · have f1 : decide (kd < 0) = false := decide_eq_false (by omega)
                have f2 : decide (14 < kd) = true := decide_eq_true hB
                clear hA hB dk dw dn dz
                go_wp2
                have Hc := Lib.hid (check_bad Hno.out Hno2.out (by have := Hl.out; omega) H0.out (by rw [Hd.out]; decide))
                go_ret
                first
                  | exact ⟨by rw [Hc.out, Hd.out]; rfl, Hbel.out⟩
                  | exact ⟨by rw [Hc.out, Hd.out]; rfl, Hbel.out.drew⟩
            | true =>
              have k1 : decide (kd < 0) = false := decide_eq_false (by have := (inD_iff.1 h3).1; omega)
              have k2 : decide (14 < kd) = false := decide_eq_false (by have := (inD_iff.1 h3).2; omega)
              cases h4 : inD wh (p - 1) with
              | false =>
                have Hd := Lib.hid (dw.out h1 h2 h3 h4)
                rcases inD_bad h4 with hA | ⟨hA, hB⟩
                · have f1 : decide (wh < 0) = true := decide_eq_true hA
                  clear hA dk dw dn dz
                  go_wp2
                  have Hc := Lib.hid (check_bad Hno.out Hno2.out (by have := Hl.out; omega) H0.out (by rw [Hd.out]; decide))
                  go_ret
                  first
                    | exact ⟨by rw [Hc.out, Hd.out]; rfl, Hbel.out⟩
                    | exact ⟨by rw [Hc.out, Hd.out]; rfl, Hbel.out.drew⟩
                · have f1 : decide (wh < 0) = false := decide_eq_false (by omega)
                  have f2 : decide (p ≤ wh) = true := decide_eq_true (by omega)
                  clear hA hB dk dw dn dz
                  go_wp2
                  have Hc := Lib.hid (check_bad Hno.out Hno2.out (by have := Hl.out; omega) H0.out (by rw [Hd.out]; decide))
                  go_ret
                  first
                    | exact ⟨by rw [Hc.out, Hd.out]; rfl, Hbel.out⟩
                    | exact ⟨by rw [Hc.out, Hd.out]; rfl, Hbel.out.drew⟩
              | true =>
                have w1 : decide (wh < 0) = false := decide_eq_false (by have := (inD_iff.1 h4).1; omega)
                have w2 : decide (p ≤ wh) = false := decide_eq_false (by have := (inD_iff.1 h4).2; omega)
                cases h5 : inD a 1000 with
                | false =>
                  have Hd := Lib.hid (dn.out h1 h2 h3 h4 (.inl h5))
                  rcases inD_bad h5 with hA | ⟨hA, hB⟩
                  · have f1 : decide (a < 0) = true := decide_eq_true hA
                    clear hA dk dw dn dz
                    go_wp2
                    have Hc := Lib.hid (check_bad Hno.out Hno2.out (by have := Hl.out; omega) H0.out (by rw [Hd.out]; decide))
                    go_ret
                    first
                      | exact ⟨by rw [Hc.out, Hd.out]; rfl, Hbel.out⟩
                      | exact ⟨by rw [Hc.out, Hd.out]; rfl, Hbel.out.drew⟩
                  · have f1 : decide (a < 0) = false := decide_eq_false (by omega)
                    have f2 : decide (1000 < a) = true := decide_eq_true hB
                    clear hA hB dk dw dn dz
                    go_wp2
                    have Hc := Lib.hid (check_bad Hno.out Hno2.out (by have := Hl.out; omega) H0.out (by rw [Hd.out]; decide))
                    go_ret
                    first
                      | exact ⟨by rw [Hc.out, Hd.out]; rfl, Hbel.out⟩
                      | exact ⟨by rw [Hc.out, Hd.out]; rfl, Hbel.out.drew⟩
                | true =>
                  have a1 : decide (a < 0) = false := decide_eq_false (by have := (inD_iff.1 h5).1; omega)
                  have a2 : decide (1000 < a) = false := decide_eq_false (by have := (inD_iff.1 h5).2; omega)
                  cases h6 : inD b' 1000 with
                  | false =>
                    have Hd := Lib.hid (dn.out h1 h2 h3 h4 (.inr h6))
                    rcases inD_bad h6 with hA | ⟨hA, hB⟩
                    · have f1 : decide (b' < 0) = true := decide_eq_true hA
                      clear hA dk dw dn dz
                      go_wp2
                      have Hc := Lib.hid (check_bad Hno.out Hno2.out (by have := Hl.out; omega) H0.out (by rw [Hd.out]; decide))
                      go_ret
                      first
                        | exact ⟨by rw [Hc.out, Hd.out]; rfl, Hbel.out⟩
                        | exact ⟨by rw [Hc.out, Hd.out]; rfl, Hbel.out.drew⟩
                    · have f1 : decide (b' < 0) = false := decide_eq_false (by omega)
                      have f2 : decide (1000 < b') = true := decide_eq_true hB
                      clear hA hB dk dw dn dz
                      go_wp2
                      have Hc := Lib.hid (check_bad Hno.out Hno2.out (by have := Hl.out; omega) H0.out (by rw [Hd.out]; decide))
                      go_ret
                      first
                        | exact ⟨by rw [Hc.out, Hd.out]; rfl, Hbel.out⟩
                        | exact ⟨by rw [Hc.out, Hd.out]; rfl, Hbel.out.drew⟩
                  | true =>
                    have b1 : decide (b' < 0) = false := decide_eq_false (by have := (inD_iff.1 h6).1; omega)
                    have b2 : decide (1000 < b') = false := decide_eq_false (by have := (inD_iff.1 h6).2; omega)
                    have Hd := Lib.hid (dz.out h1 h2 h3 h4 h5 h6)
                    clear dk dw dn dz
                    go_wp2
                    go_roundw
                    case rel =>
                      refine ⟨0 + 1, hlt, by go_num, fun i hi => ?_, Hbel.out.drew⟩
                      rcases Nat.lt_or_ge i (0) with hik | hik
                      · exact H0.out i hik
                      · obtain rfl : i = 0 := by omega
                        exact Hd.out
                    case measure => simp [intOf]; omega
        · obtain ⟨j, rfl⟩ : ∃ j, k = j + 1 := ⟨k - 1, by omega⟩
          have z0 := hprev j rfl
          have hq : decide ((0 : Int) < ((j : Int) + 1)) = true := decide_eq_true (by omega)
          have eq1 : (j : Int) + 1 - 1 = (j : Int) := by omega
          simp only [Nat.add_sub_cancel] at dold dk dw dn dz
          have hji : (j : Int) < (n : Int) := by omega
          generalize (l.getD j default).t = u at *
          by_cases h2' : t < u
          · have Hd := Lib.hid (dold.out h1 ⟨by omega, h2'⟩)
            have hq2 : decide (t < u) = true := decide_eq_true h2'
            clear hprev hbel dt dold dk dw dn dz h2'
            go_wp2
            go_region
            all_goals
              go_wp2
              have Hc := Lib.hid (check_bad Hno.out Hno2.out (by have := Hl.out; omega) H0.out (by rw [Hd.out]; decide))
              go_ret
              first
                | exact ⟨by rw [Hc.out, Hd.out]; rfl, Hbel.out⟩
                | exact ⟨by rw [Hc.out, Hd.out]; rfl, Hbel.out.drew⟩
          · have h2 : ¬ (0 < j + 1 ∧ t < u) := fun h => h2' h.2
            have hq2 : decide (t < u) = false := decide_eq_false h2'
            clear hprev hbel dt dold h2'
            go_wp2
            go_region
            all_goals
              cases h3 : inD kd 14 with
              | false =>
                have Hd := Lib.hid (dk.out h1 h2 h3)
                rcases inD_bad h3 with hA | ⟨hA, hB⟩
                · have f1 : decide (kd < 0) = true := decide_eq_true hA
                  clear hA dk dw dn dz
                  go_wp2
                  have Hc := Lib.hid (check_bad Hno.out Hno2.out (by have := Hl.out; omega) H0.out (by rw [Hd.out]; decide))
                  go_ret
                  first
                    | exact ⟨by rw [Hc.out, Hd.out]; rfl, Hbel.out⟩
                    | exact ⟨by rw [Hc.out, Hd.out]; rfl, Hbel.out.drew⟩
                · have f1 : decide (kd < 0) = false := decide_eq_false (by omega)
                  have f2 : decide (14 < kd) = true := decide_eq_true hB
                  clear hA hB dk dw dn dz
                  go_wp2
                  have Hc := Lib.hid (check_bad Hno.out Hno2.out (by have := Hl.out; omega) H0.out (by rw [Hd.out]; decide))
                  go_ret
                  first
                    | exact ⟨by rw [Hc.out, Hd.out]; rfl, Hbel.out⟩
                    | exact ⟨by rw [Hc.out, Hd.out]; rfl, Hbel.out.drew⟩
              | true =>
                have k1 : decide (kd < 0) = false := decide_eq_false (by have := (inD_iff.1 h3).1; omega)
                have k2 : decide (14 < kd) = false := decide_eq_false (by have := (inD_iff.1 h3).2; omega)
                cases h4 : inD wh (p - 1) with
                | false =>
                  have Hd := Lib.hid (dw.out h1 h2 h3 h4)
                  rcases inD_bad h4 with hA | ⟨hA, hB⟩
                  · have f1 : decide (wh < 0) = true := decide_eq_true hA
                    clear hA dk dw dn dz
                    go_wp2
                    have Hc := Lib.hid (check_bad Hno.out Hno2.out (by have := Hl.out; omega) H0.out (by rw [Hd.out]; decide))
                    go_ret
                    first
                      | exact ⟨by rw [Hc.out, Hd.out]; rfl, Hbel.out⟩
                      | exact ⟨by rw [Hc.out, Hd.out]; rfl, Hbel.out.drew⟩
                  · have f1 : decide (wh < 0) = false := decide_eq_false (by omega)
                    have f2 : decide (p ≤ wh) = true := decide_eq_true (by omega)
                    clear hA hB dk dw dn dz
                    go_wp2
                    have Hc := Lib.hid (check_bad Hno.out Hno2.out (by have := Hl.out; omega) H0.out (by rw [Hd.out]; decide))
                    go_ret
                    first
                      | exact ⟨by rw [Hc.out, Hd.out]; rfl, Hbel.out⟩
                      | exact ⟨by rw [Hc.out, Hd.out]; rfl, Hbel.out.drew⟩
                | true =>
                  have w1 : decide (wh < 0) = false := decide_eq_false (by have := (inD_iff.1 h4).1; omega)
                  have w2 : decide (p ≤ wh) = false := decide_eq_false (by have := (inD_iff.1 h4).2; omega)
                  cases h5 : inD a 1000 with
                  | false =>
                    have Hd := Lib.hid (dn.out h1 h2 h3 h4 (.inl h5))
                    rcases inD_bad h5 with hA | ⟨hA, hB⟩
                    · have f1 : decide (a < 0) = true := decide_eq_true hA
                      clear hA dk dw dn dz
                      go_wp2
                      have Hc := Lib.hid (check_bad Hno.out Hno2.out (by have := Hl.out; omega) H0.out (by rw [Hd.out]; decide))
                      go_ret
                      first
                        | exact ⟨by rw [Hc.out, Hd.out]; rfl, Hbel.out⟩
                        | exact ⟨by rw [Hc.out, Hd.out]; rfl, Hbel.out.drew⟩
                    · have f1 : decide (a < 0) = false := decide_eq_false (by omega)
                      have f2 : decide (1000 < a) = true := decide_eq_true hB
                      clear hA hB dk dw dn dz
                      go_wp2
                      have Hc := Lib.hid (check_bad Hno.out Hno2.out (by have := Hl.out; omega) H0.out (by rw [Hd.out]; decide))
                      go_ret
                      first
                        | exact ⟨by rw [Hc.out, Hd.out]; rfl, Hbel.out⟩
                        | exact ⟨by rw [Hc.out, Hd.out]; rfl, Hbel.out.drew⟩
                  | true =>
                    have a1 : decide (a < 0) = false := decide_eq_false (by have := (inD_iff.1 h5).1; omega)
                    have a2 : decide (1000 < a) = false := decide_eq_false (by have := (inD_iff.1 h5).2; omega)
                    cases h6 : inD b' 1000 with
                    | false =>
                      have Hd := Lib.hid (dn.out h1 h2 h3 h4 (.inr h6))
                      rcases inD_bad h6 with hA | ⟨hA, hB⟩
                      · have f1 : decide (b' < 0) = true := decide_eq_true hA
                        clear hA dk dw dn dz
                        go_wp2
                        have Hc := Lib.hid (check_bad Hno.out Hno2.out (by have := Hl.out; omega) H0.out (by rw [Hd.out]; decide))
                        go_ret
                        first
                          | exact ⟨by rw [Hc.out, Hd.out]; rfl, Hbel.out⟩
                          | exact ⟨by rw [Hc.out, Hd.out]; rfl, Hbel.out.drew⟩
                      · have f1 : decide (b' < 0) = false := decide_eq_false (by omega)
                        have f2 : decide (1000 < b') = true := decide_eq_true hB
                        clear hA hB dk dw dn dz
                        go_wp2
                        have Hc := Lib.hid (check_bad Hno.out Hno2.out (by have := Hl.out; omega) H0.out (by rw [Hd.out]; decide))
                        go_ret
                        first
                          | exact ⟨by rw [Hc.out, Hd.out]; rfl, Hbel.out⟩
                          | exact ⟨by rw [Hc.out, Hd.out]; rfl, Hbel.out.drew⟩
                    | true =>
                      have b1 : decide (b' < 0) = false := decide_eq_false (by have := (inD_iff.1 h6).1; omega)
                      have b2 : decide (1000 < b') = false := decide_eq_false (by have := (inD_iff.1 h6).2; omega)
                      have Hd := Lib.hid (dz.out h1 h2 h3 h4 h5 h6)
                      clear dk dw dn dz
                      go_wp2
                      go_roundw
                      case rel =>
                        refine ⟨j + 1 + 1, hlt, by go_num, fun i hi => ?_, Hbel.out.drew⟩
                        rcases Nat.lt_or_ge i (j + 1) with hik | hik
                        · exact H0.out i hik
                        · obtain rfl : i = j + 1 := by omega
                          exact Hd.out
                      case measure => simp [intOf]; omega
    · have hkn : n ≤ k := by omega
      have Hc := Lib.hid (check_good Hno.out Hno2.out (fun j hj => H0.out j (by have := Hl.out; omega)))
      have Hbel := Lib.hid hbel
      clear hlt hbel
      go_wp2
      go_ret
      exact ⟨by rw [Hc.out]; rfl, Hbel.out⟩
end Go.Proofs.YtigolkdclacikaaDoor
