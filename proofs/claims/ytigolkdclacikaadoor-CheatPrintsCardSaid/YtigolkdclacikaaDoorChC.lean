/- The walks of when a plan may be, the program's and the reference's. Condition: a bound on how many deeds. -/
import Derived.Test.YtigolkdclacikaaDoorChB
namespace Go.Proofs.YtigolkdclacikaaDoor
open Go.RowKit Go.Lib
theorem dErr_t {l : List De} {p : Int} {i : Nat} (h : inD (l.getD i default).t 1048576 = false) : dErr l p i = 2 := by unfold dErr; rw [if_pos h]
theorem dErr_old {l : List De} {p : Int} {i : Nat} (h : inD (l.getD i default).t 1048576 = true) (h2 : 0 < i ∧ (l.getD i default).t < (l.getD (i - 1) default).t) : dErr l p i = 18 := by
  unfold dErr; rw [if_neg (by rw [h]; simp), if_pos h2]
theorem dErr_k {l : List De} {p : Int} {i : Nat} (h : inD (l.getD i default).t 1048576 = true) (h2 : ¬ (0 < i ∧ (l.getD i default).t < (l.getD (i - 1) default).t)) (h3 : inD (l.getD i default).k 14 = false) : dErr l p i = 1 := by
  unfold dErr; rw [if_neg (by rw [h]; simp), if_neg h2, if_pos h3]
theorem dErr_w {l : List De} {p : Int} {i : Nat} (h : inD (l.getD i default).t 1048576 = true) (h2 : ¬ (0 < i ∧ (l.getD i default).t < (l.getD (i - 1) default).t)) (h3 : inD (l.getD i default).k 14 = true) (h4 : inD (l.getD i default).w (p - 1) = false) : dErr l p i = 28 := by
  unfold dErr; rw [if_neg (by rw [h]; simp), if_neg h2, if_neg (by rw [h3]; simp), if_pos h4]
theorem dErr_n {l : List De} {p : Int} {i : Nat} (h : inD (l.getD i default).t 1048576 = true) (h2 : ¬ (0 < i ∧ (l.getD i default).t < (l.getD (i - 1) default).t)) (h3 : inD (l.getD i default).k 14 = true) (h4 : inD (l.getD i default).w (p - 1) = true)
    (h5 : inD (l.getD i default).a 1000 = false ∨ inD (l.getD i default).b 1000 = false) : dErr l p i = 2 := by
  unfold dErr; rw [if_neg (by rw [h]; simp), if_neg h2, if_neg (by rw [h3]; simp), if_neg (by rw [h4]; simp), if_pos h5]
theorem dErr_0 {l : List De} {p : Int} {i : Nat} (h : inD (l.getD i default).t 1048576 = true) (h2 : ¬ (0 < i ∧ (l.getD i default).t < (l.getD (i - 1) default).t)) (h3 : inD (l.getD i default).k 14 = true) (h4 : inD (l.getD i default).w (p - 1) = true)
    (h5 : inD (l.getD i default).a 1000 = true) (h6 : inD (l.getD i default).b 1000 = true) : dErr l p i = 0 := by
  unfold dErr; rw [if_neg (by rw [h]; simp), if_neg h2, if_neg (by rw [h3]; simp), if_neg (by rw [h4]; simp), if_neg (by rw [h5, h6]; simp)]
set_option maxRecDepth 100000 in
set_option maxHeartbeats 2000000 in
theorem check_any (A : Option Addr) (n c : Nat) (l : List De) (p : Int) (w : World) (hr : Rd w w.heap.size 5 A n (flat l)) (hn : n ≤ 1000000) :
    Calls Tryd.prog 13 #[.slice A n c, .int .i64 p] w fun e w' => e = .returned (.int .i64 (checkD l p)) ∧ Below w.heap.size w w' := by
  have Hl := Lib.hid hr.dlen
  have Hr := Lib.hid hr
  clear hr
  by_cases hp : p < 1 ∨ 16 < p
  · have Hc := Lib.hid (check_who (l := l) hp)
    have hb : (decide (1 ≤ p) && decide (p ≤ 16)) = false := by
      rcases hp with h | h
      · rw [show decide (1 ≤ p) = false from decide_eq_false (by omega)]; rfl
      · rw [show decide (p ≤ 16) = false from decide_eq_false (by omega)]; simp
    clear hp
    go_enter Tryd.func13, Tryd.ntmps13
    go_wp2_with (go_at_call 25; refine (players_any _ _).mono ?_; rintro e w' ⟨rfl, rfl⟩; rw [hb])
    go_ret
    exact ⟨by rw [Hc.out]; rfl, Below.refl _ _⟩
  have hb : (decide (1 ≤ p) && decide (p ≤ 16)) = true := by rw [show decide (1 ≤ p) = true from decide_eq_true (by omega), show decide (p ≤ 16) = true from decide_eq_true (by omega)]; rfl
  have Hno := Lib.hid hp
  by_cases hbig : 256 < n
  · have Hc := Lib.hid (check_many (l := l) (players := p) hp (by have := Hl.out; omega))
    have hd : decide ((256 : Int) < (n : Int)) = true := decide_eq_true (by omega)
    clear hp
    go_enter Tryd.func13, Tryd.ntmps13
    go_wp2_with (go_at_call 25; refine (players_any _ _).mono ?_; rintro e w' ⟨rfl, rfl⟩; rw [hb])
    go_ret
    exact ⟨by rw [Hc.out]; rfl, Below.refl _ _⟩
  have hd : decide ((256 : Int) < (n : Int)) = false := decide_eq_false (by omega)
  have Hno2 : Hid (¬ 256 < l.length) := by show ¬ _; have := Hl.out; omega
  have ew : IntKind.i64.wrap (p - 1) = p - 1 := by rw [IntKind.wrap_i64]; omega
  have hp1 : 1 ≤ p := by omega
  have hp2 : p ≤ 16 := by omega
  clear hp hbig
  go_enter Tryd.func13, Tryd.ntmps13
  go_wp2_with (go_at_call 25; refine (players_any _ _).mono ?_; rintro e w' ⟨rfl, rfl⟩; rw [hb])
  clear hb
  go_loopw [15] (fun i wr => ∃ k : Nat, k ≤ n ∧ i = .int .i64 (k : Int) ∧ (∀ j, j < k → dErr l p j = 0) ∧ Below w.heap.size w wr) (fun i _ => n - (intOf i).toNat)
  case atStart => exact ⟨0, Nat.zero_le _, rfl, fun j hj => absurd hj (by omega), Below.refl _ _⟩
  case round =>
    obtain ⟨k, hk, rfl, h0, hbel⟩ := hrel
    have H0 := Lib.hid h0; clear h0
    by_cases hlt : k < n
    · obtain ⟨b, o, rfl, hbB, x0, x1, x2, x3, x4⟩ := (Hr.out.below hbel (Nat.le_refl _)).de hlt
      have hprev : ∀ j, k = j + 1 → wr.cell? ⟨b, o + j * 5, none⟩ = some (.int .i64 (l.getD j default).t) := fun j hj => by
        obtain ⟨b2, o2, e2, _, y0, _⟩ := (Hr.out.below hbel (Nat.le_refl _)).de (k := j) (by omega)
        simp only [Option.some.injEq, Addr.mk.injEq, and_true] at e2
        obtain ⟨rfl, rfl⟩ := e2
        exact y0
      have dt := Lib.hid (dErr_t (l := l) (p := p) (i := k))
      have dold := Lib.hid (dErr_old (l := l) (p := p) (i := k))
      have dk := Lib.hid (dErr_k (l := l) (p := p) (i := k))
      have dw := Lib.hid (dErr_w (l := l) (p := p) (i := k))
      have dn := Lib.hid (dErr_n (l := l) (p := p) (i := k))
      have dz := Lib.hid (dErr_0 (l := l) (p := p) (i := k))
      generalize l.getD k default = dd at *
      obtain ⟨t, kd, wh, a, b'⟩ := dd
      simp only at x0 x1 x2 x3 x4 dt dold dk dw dn dz
      have hsz := hbel.size
      have hi0 : (0 : Int) ≤ (k : Int) := by omega
      have hi1 : (k : Int) < (n : Int) := by omega
      have Hbel := Lib.hid (hbel.alloc hsz (.cells #[.int .i64 t, .int .i64 kd, .int .i64 wh, .int .i64 a, .int .i64 b'] 46))
      have hbb : ∀ o', (wr.alloc (.cells #[.int .i64 t, .int .i64 kd, .int .i64 wh, .int .i64 a, .int .i64 b'] 46)).cell? ⟨b, o', none⟩ = wr.cell? ⟨b, o', none⟩ := fun o' => (bcell (below_one wr _)).1 b o' (by omega)
      cases h1 : inD t 1048576 with
      | false =>
        have Hd := Lib.hid (dt.out h1)
        clear hbel hbb dt dold dk dw dn dz
        go_wp2_with (go_at_call 26; refine (within_any _ _ _).mono ?_; rintro e w9 ⟨rfl, rfl⟩; first | rw [h1] | rw [h3] | rw [h4] | rw [h5] | rw [h6])
        have Hc := Lib.hid (check_bad Hno.out Hno2.out (by have := Hl.out; omega) H0.out (by rw [Hd.out]; decide))
        go_ret
        first
          | exact ⟨by rw [Hc.out, Hd.out]; rfl, Hbel.out⟩
          | exact ⟨by rw [Hc.out, Hd.out]; rfl, Hbel.out.drew⟩
      | true =>
        by_cases hk0 : k = 0
        · subst hk0
          simp only [Nat.zero_mul, Nat.add_zero] at x0 x1 x2 x3 x4
          have h2 : ¬ (0 < 0 ∧ t < (l.getD (0 - 1) default).t) := by simp
          have hq : decide ((0 : Int) < 0) = false := by decide
          clear hprev hbel dt dold
          go_wp2_with (go_at_call 26; refine (within_any _ _ _).mono ?_; rintro e w9 ⟨rfl, rfl⟩; first | rw [h1] | rw [h3] | rw [h4] | rw [h5] | rw [h6])
          go_region
          all_goals
            cases h3 : inD kd 14 with
            | false =>
              have Hd := Lib.hid (dk.out h1 h2 h3)
              clear dk dw dn dz
              go_wp2_with (go_at_call 26; refine (within_any _ _ _).mono ?_; rintro e w9 ⟨rfl, rfl⟩; first | rw [h1] | rw [h3] | rw [h4] | rw [h5] | rw [h6])
              have Hc := Lib.hid (check_bad Hno.out Hno2.out (by have := Hl.out; omega) H0.out (by rw [Hd.out]; decide))
              go_ret
              first
                | exact ⟨by rw [Hc.out, Hd.out]; rfl, Hbel.out⟩
                | exact ⟨by rw [Hc.out, Hd.out]; rfl, Hbel.out.drew⟩
            | true =>
              cases h4 : inD wh (p - 1) with
              | false =>
                have Hd := Lib.hid (dw.out h1 h2 h3 h4)
                clear dk dw dn dz
                go_wp2_with (go_at_call 26; refine (within_any _ _ _).mono ?_; rintro e w9 ⟨rfl, rfl⟩; first | rw [h1] | rw [h3] | rw [h4] | rw [h5] | rw [h6])
                have Hc := Lib.hid (check_bad Hno.out Hno2.out (by have := Hl.out; omega) H0.out (by rw [Hd.out]; decide))
                go_ret
                first
                  | exact ⟨by rw [Hc.out, Hd.out]; rfl, Hbel.out⟩
                  | exact ⟨by rw [Hc.out, Hd.out]; rfl, Hbel.out.drew⟩
              | true =>
                cases h5 : inD a 1000 with
                | false =>
                  have Hd := Lib.hid (dn.out h1 h2 h3 h4 (.inl h5))
                  clear dk dw dn dz
                  go_wp2_with (go_at_call 26; refine (within_any _ _ _).mono ?_; rintro e w9 ⟨rfl, rfl⟩; first | rw [h1] | rw [h3] | rw [h4] | rw [h5] | rw [h6])
                  have Hc := Lib.hid (check_bad Hno.out Hno2.out (by have := Hl.out; omega) H0.out (by rw [Hd.out]; decide))
                  go_ret
                  first
                    | exact ⟨by rw [Hc.out, Hd.out]; rfl, Hbel.out⟩
                    | exact ⟨by rw [Hc.out, Hd.out]; rfl, Hbel.out.drew⟩
                | true =>
                  cases h6 : inD b' 1000 with
                  | false =>
                    have Hd := Lib.hid (dn.out h1 h2 h3 h4 (.inr h6))
                    clear dk dw dn dz
                    go_wp2_with (go_at_call 26; refine (within_any _ _ _).mono ?_; rintro e w9 ⟨rfl, rfl⟩; first | rw [h1] | rw [h3] | rw [h4] | rw [h5] | rw [h6])
                    have Hc := Lib.hid (check_bad Hno.out Hno2.out (by have := Hl.out; omega) H0.out (by rw [Hd.out]; decide))
                    go_ret
                    first
                      | exact ⟨by rw [Hc.out, Hd.out]; rfl, Hbel.out⟩
                      | exact ⟨by rw [Hc.out, Hd.out]; rfl, Hbel.out.drew⟩
                  | true =>
                    have Hd := Lib.hid (dz.out h1 h2 h3 h4 h5 h6)
                    clear dk dw dn dz
                    go_wp2_with (go_at_call 26; refine (within_any _ _ _).mono ?_; rintro e w9 ⟨rfl, rfl⟩; first | rw [h1] | rw [h3] | rw [h4] | rw [h5] | rw [h6])
                    go_roundw
                    case rel =>
                      refine ⟨0 + 1, hlt, by go_num, fun i hi => ?_, Hbel.out.drew⟩
                      rcases Nat.lt_or_ge i (0) with hik | hik
                      · exact H0.out i hik
                      · obtain rfl : i = 0 := by omega
                        exact Hd.out
                    case measure => simp [intOf]; omega
        · obtain ⟨j, rfl⟩ : ∃ j, k = j + 1 := ⟨k - 1, by omega⟩
          have z0 := hprev j rfl
          have hq : decide ((0 : Int) < ((j : Int) + 1)) = true := decide_eq_true (by omega)
          have eq1 : (j : Int) + 1 - 1 = (j : Int) := by omega
          simp only [Nat.add_sub_cancel] at dold dk dw dn dz
          have hji : (j : Int) < (n : Int) := by omega
          generalize (l.getD j default).t = u at *
          by_cases h2' : t < u
          · have Hd := Lib.hid (dold.out h1 ⟨by omega, h2'⟩)
            have hq2 : decide (t < u) = true := decide_eq_true h2'
            clear hprev hbel dt dold dk dw dn dz h2'
            go_wp2_with (go_at_call 26; refine (within_any _ _ _).mono ?_; rintro e w9 ⟨rfl, rfl⟩; first | rw [h1] | rw [h3] | rw [h4] | rw [h5] | rw [h6])
            go_region
            all_goals
              go_wp2_with (go_at_call 26; refine (within_any _ _ _).mono ?_; rintro e w9 ⟨rfl, rfl⟩; first | rw [h1] | rw [h3] | rw [h4] | rw [h5] | rw [h6])
              have Hc := Lib.hid (check_bad Hno.out Hno2.out (by have := Hl.out; omega) H0.out (by rw [Hd.out]; decide))
              go_ret
              first
                | exact ⟨by rw [Hc.out, Hd.out]; rfl, Hbel.out⟩
                | exact ⟨by rw [Hc.out, Hd.out]; rfl, Hbel.out.drew⟩
          · have h2 : ¬ (0 < j + 1 ∧ t < u) := fun h => h2' h.2
            have hq2 : decide (t < u) = false := decide_eq_false h2'
            clear hprev hbel dt dold h2'
            go_wp2_with (go_at_call 26; refine (within_any _ _ _).mono ?_; rintro e w9 ⟨rfl, rfl⟩; first | rw [h1] | rw [h3] | rw [h4] | rw [h5] | rw [h6])
            go_region
            all_goals
              cases h3 : inD kd 14 with
              | false =>
                have Hd := Lib.hid (dk.out h1 h2 h3)
                clear dk dw dn dz
                go_wp2_with (go_at_call 26; refine (within_any _ _ _).mono ?_; rintro e w9 ⟨rfl, rfl⟩; first | rw [h1] | rw [h3] | rw [h4] | rw [h5] | rw [h6])
                have Hc := Lib.hid (check_bad Hno.out Hno2.out (by have := Hl.out; omega) H0.out (by rw [Hd.out]; decide))
                go_ret
                first
                  | exact ⟨by rw [Hc.out, Hd.out]; rfl, Hbel.out⟩
                  | exact ⟨by rw [Hc.out, Hd.out]; rfl, Hbel.out.drew⟩
              | true =>
                cases h4 : inD wh (p - 1) with
                | false =>
                  have Hd := Lib.hid (dw.out h1 h2 h3 h4)
                  clear dk dw dn dz
                  go_wp2_with (go_at_call 26; refine (within_any _ _ _).mono ?_; rintro e w9 ⟨rfl, rfl⟩; first | rw [h1] | rw [h3] | rw [h4] | rw [h5] | rw [h6])
                  have Hc := Lib.hid (check_bad Hno.out Hno2.out (by have := Hl.out; omega) H0.out (by rw [Hd.out]; decide))
                  go_ret
                  first
                    | exact ⟨by rw [Hc.out, Hd.out]; rfl, Hbel.out⟩
                    | exact ⟨by rw [Hc.out, Hd.out]; rfl, Hbel.out.drew⟩
                | true =>
                  cases h5 : inD a 1000 with
                  | false =>
                    have Hd := Lib.hid (dn.out h1 h2 h3 h4 (.inl h5))
                    clear dk dw dn dz
                    go_wp2_with (go_at_call 26; refine (within_any _ _ _).mono ?_; rintro e w9 ⟨rfl, rfl⟩; first | rw [h1] | rw [h3] | rw [h4] | rw [h5] | rw [h6])
                    have Hc := Lib.hid (check_bad Hno.out Hno2.out (by have := Hl.out; omega) H0.out (by rw [Hd.out]; decide))
                    go_ret
                    first
                      | exact ⟨by rw [Hc.out, Hd.out]; rfl, Hbel.out⟩
                      | exact ⟨by rw [Hc.out, Hd.out]; rfl, Hbel.out.drew⟩
                  | true =>
                    cases h6 : inD b' 1000 with
                    | false =>
                      have Hd := Lib.hid (dn.out h1 h2 h3 h4 (.inr h6))
                      clear dk dw dn dz
                      go_wp2_with (go_at_call 26; refine (within_any _ _ _).mono ?_; rintro e w9 ⟨rfl, rfl⟩; first | rw [h1] | rw [h3] | rw [h4] | rw [h5] | rw [h6])
                      have Hc := Lib.hid (check_bad Hno.out Hno2.out (by have := Hl.out; omega) H0.out (by rw [Hd.out]; decide))
                      go_ret
                      first
                        | exact ⟨by rw [Hc.out, Hd.out]; rfl, Hbel.out⟩
                        | exact ⟨by rw [Hc.out, Hd.out]; rfl, Hbel.out.drew⟩
                    | true =>
                      have Hd := Lib.hid (dz.out h1 h2 h3 h4 h5 h6)
                      clear dk dw dn dz
                      go_wp2_with (go_at_call 26; refine (within_any _ _ _).mono ?_; rintro e w9 ⟨rfl, rfl⟩; first | rw [h1] | rw [h3] | rw [h4] | rw [h5] | rw [h6])
                      go_roundw
                      case rel =>
                        refine ⟨j + 1 + 1, hlt, by go_num, fun i hi => ?_, Hbel.out.drew⟩
                        rcases Nat.lt_or_ge i (j + 1) with hik | hik
                        · exact H0.out i hik
                        · obtain rfl : i = j + 1 := by omega
                          exact Hd.out
                      case measure => simp [intOf]; omega
    · have hkn : n ≤ k := by omega
      have Hc := Lib.hid (check_good Hno.out Hno2.out (fun j hj => H0.out j (by have := Hl.out; omega)))
      have Hbel := Lib.hid hbel
      clear hlt hbel
      go_wp2
      go_ret
      exact ⟨by rw [Hc.out]; rfl, Hbel.out⟩
end Go.Proofs.YtigolkdclacikaaDoor
