/- The walks of Own, of when a plan may be (the program's and the reference's), and of the words. Condition: a bound on how many deeds. -/
import Derived.Test.YtigolkdclacikaaDoorChA
import Derived.Test.YtigolkdclacikaaDoorStepApp
import Derived.Deep.RegionHeld3
import Derived.Deep.QuietTactic
import Derived.BigQuiet
namespace Go.Proofs.YtigolkdclacikaaDoor
open Go.RowKit Go.Lib
theorem below_one (w : World) (a : Obj) : Below w.heap.size w (w.alloc a) := (Below.refl _ _).alloc (Nat.le_refl _) _
theorem players_any (n : Int) (w : World) : Calls Tryd.prog 25 #[.int .i64 n] w fun e w' => e = .returned (.bool (decide (1 ≤ n) && decide (n ≤ 16))) ∧ w = w' := by
  by_cases h : 1 ≤ n
  · by_cases h2 : n ≤ 16
    · have d1 : decide (1 ≤ n) = true := decide_eq_true h
      have d2 : decide (n ≤ 16) = true := decide_eq_true h2
      clear h h2
      go_enter Tryd.func25, Tryd.ntmps25
      go_wp2
      go_ret
      exact ⟨by rw [d1, d2]; rfl, rfl⟩
    · have d1 : decide (1 ≤ n) = true := decide_eq_true h
      have d2 : decide (n ≤ 16) = false := decide_eq_false h2
      clear h h2
      go_enter Tryd.func25, Tryd.ntmps25
      go_wp2
      go_ret
      exact ⟨by rw [d1, d2]; rfl, rfl⟩
  · have d1 : decide (1 ≤ n) = false := decide_eq_false h
    clear h
    go_enter Tryd.func25, Tryd.ntmps25
    go_wp2
    go_ret
    exact ⟨by rw [d1]; rfl, rfl⟩
theorem within_any (n most : Int) (w : World) : Calls Tryd.prog 26 #[.int .i64 n, .int .i64 most] w fun e w' => e = .returned (.bool (inD n most)) ∧ w = w' := by
  by_cases h : 0 ≤ n
  · by_cases h2 : n ≤ most
    · have Hr := Lib.hid (inD_yes h h2)
      have d2 : decide (n ≤ most) = true := decide_eq_true h2
      clear h2
      go_enter Tryd.func26, Tryd.ntmps26
      go_wp2
      go_ret
      exact ⟨by rw [Hr.out]; rfl, rfl⟩
    · have Hr := Lib.hid (inD_no (n := n) (most := most) (.inr (by omega)))
      have d2 : decide (n ≤ most) = false := decide_eq_false h2
      clear h2
      go_enter Tryd.func26, Tryd.ntmps26
      go_wp2
      go_ret
      exact ⟨by rw [Hr.out]; rfl, rfl⟩
  · have Hr := Lib.hid (inD_no (n := n) (most := most) (.inl (by omega)))
    have d1 : decide (0 ≤ n) = false := decide_eq_false h
    clear h
    go_enter Tryd.func26, Tryd.ntmps26
    go_wp2
    go_ret
    exact ⟨by rw [Hr.out]; rfl, rfl⟩
theorem info_De : (Tryd.prog.info? 46).map (fun i => (i.zero, i.size, i.bytes)) = some (some (.agg #[.int .i64 0, .int .i64 0, .int .i64 0, .int .i64 0, .int .i64 0]), 5, 40) := by kernel_rfl
theorem info_DeR : (Tryd.prog.info? 35).map (fun i => (i.zero, i.size, i.bytes)) = some (some (.agg #[.int .i64 0, .int .i64 0, .int .i64 0, .int .i64 0, .int .i64 0]), 5, 40) := by kernel_rfl
/-- A list of deeds handed back as a slice. -/
def GivesDe (w : World) (l : List De) (e : Ending) (w' : World) : Prop := ∃ A n c, e = .returned (.slice A n c) ∧ Rd w' w'.heap.size 5 A n (flat l) ∧ n = l.length ∧ Below w.heap.size w w'
set_option maxRecDepth 100000 in
set_option maxHeartbeats 1000000 in
theorem own_any (A : Option Addr) (n c : Nat) (l : List De) (w : World) (hr : Rd w w.heap.size 5 A n (flat l)) (hn : n ≤ 1000000) : Calls Tryd.prog 12 #[.slice A n c] w (GivesDe w l) := by
  obtain ⟨i0, hi, hz0, hz1, hz2⟩ := info_parts info_De
  have HI := Lib.hid (And.intro hi (And.intro hz0 (And.intro hz1 hz2))); clear hi hz0 hz1 hz2
  have Hl := Lib.hid hr.dlen
  have Hr := Lib.hid hr
  clear hr
  go_enter Tryd.func12, Tryd.ntmps12
  go_wp2
  go_loopw [3, 4] (fun v i wr => ∃ k : Nat, k ≤ n ∧ i = .int .i64 (k : Int) ∧ wr.ownsRow w.heap.size 46 5 v k (flat (l.take k)) ∧ Below w.heap.size w wr) (fun _ i _ => n - (intOf i).toNat)
  case atStart => exact ⟨0, Nat.zero_le _, rfl, World.ownsRow_nil _ _ _ _, Below.refl _ _⟩
  case round =>
    obtain ⟨k, hk, rfl, hown, hbel⟩ := hrel
    obtain ⟨A', c', rfl⟩ := own_form hown
    by_cases hlt : k < n
    · obtain ⟨b, o, rfl, hbB, x0, x1, x2, x3, x4⟩ := (Hr.out.below hbel (Nat.le_refl _)).de hlt
      have Ht := Lib.hid (take_de (l := l) (k := k) (by have := Hl.out; omega))
      generalize l.getD k default = d at *
      obtain ⟨t, kd, wh, a, b'⟩ := d
      simp only at x0 x1 x2 x3 x4
      have hsz := hbel.size
      have hi0 : (0 : Int) ≤ (k : Int) := by omega
      have hi1 : (k : Int) < (n : Int) := by omega
      have Hown : Hid (World.ownsRow (wr.alloc (.cells #[.int .i64 t, .int .i64 kd, .int .i64 wh, .int .i64 a, .int .i64 b'] 46)).drew w.heap.size 46 5 (.slice A' k c') k (flat (l.take k))) := Lib.hid (own_below (hown.alloc _) (Below.refl _ _).drew)
      have Hlit : Hid (Rd (wr.alloc (.cells #[.int .i64 t, .int .i64 kd, .int .i64 wh, .int .i64 a, .int .i64 b'] 46)).drew (wr.alloc (.cells #[.int .i64 t, .int .i64 kd, .int .i64 wh, .int .i64 a, .int .i64 b'] 46)).drew.heap.size 5 (some ⟨wr.heap.size, 0, none⟩) 1 [.int .i64 t, .int .i64 kd, .int .i64 wh, .int .i64 a, .int .i64 b']) := Lib.hid (Rd.newA (n := 1) (sz := 5) (xs := [.int .i64 t, .int .i64 kd, .int .i64 wh, .int .i64 a, .int .i64 b']) wr 46 #[.int .i64 t, .int .i64 kd, .int .i64 wh, .int .i64 a, .int .i64 b'] rfl rfl)
      have hba := hbel.alloc hsz (.cells #[.int .i64 t, .int .i64 kd, .int .i64 wh, .int .i64 a, .int .i64 b'] 46)
      have Hbel := Lib.hid hba.drew
      have hbb : ∀ o', (wr.alloc (.cells #[.int .i64 t, .int .i64 kd, .int .i64 wh, .int .i64 a, .int .i64 b'] 46)).cell? ⟨b, o', none⟩ = wr.cell? ⟨b, o', none⟩ := fun o' => (bcell (below_one wr _)).1 b o' (by omega)
      have HS0 := And.intro x0 (And.intro x1 (And.intro x2 (And.intro x3 x4)))
      have HS1 := And.intro ((hbb _).trans x0) (And.intro ((hbb _).trans x1) (And.intro ((hbb _).trans x2) (And.intro ((hbb _).trans x3) ((hbb _).trans x4))))
      clear hown hbel hba hbb
      go_wp2
      go_region_held3 (fun w' => w'.cell? ⟨b, o + k * 5, none⟩ = some (.int .i64 t) ∧ w'.cell? ⟨b, o + k * 5 + 1, none⟩ = some (.int .i64 kd) ∧ w'.cell? ⟨b, o + k * 5 + 2, none⟩ = some (.int .i64 wh) ∧ w'.cell? ⟨b, o + k * 5 + 3, none⟩ = some (.int .i64 a) ∧ w'.cell? ⟨b, o + k * 5 + 4, none⟩ = some (.int .i64 b'))
        (first | exact HS0 | exact HS1 | exact HS4 | go_keep)
        (first | (refine step_append_rdg (wr.alloc (.cells #[.int .i64 t, .int .i64 kd, .int .i64 wh, .int .i64 a, .int .i64 b'] 46)).drew (by rfl) _ _ 28 (by rfl) w.heap.size 46 i0 (.agg #[.int .i64 0, .int .i64 0, .int .i64 0, .int .i64 0, .int .i64 0]) 5 40 Tryd.underlying28 HI.out rfl (by decide) _ _ _ (by rfl) Hown.out _ _ 1 1 _ (by rfl) Hlit.out (by simp [Value.oneCell']) (by omega) (by omega) (by simp; omega) ?_; intro v4 w4 hown4 hbel4 hg4; have HS4 := And.intro ((bcell hbel4).1 b _ hbB |>.trans HS1.1) (And.intro ((bcell hbel4).1 b _ hbB |>.trans HS1.2.1) (And.intro ((bcell hbel4).1 b _ hbB |>.trans HS1.2.2.1) (And.intro ((bcell hbel4).1 b _ hbB |>.trans HS1.2.2.2.1) ((bcell hbel4).1 b _ hbB |>.trans HS1.2.2.2.2)))); have Hown4 := Lib.hid hown4; have Hbel4 := Lib.hid (Hbel.out.trans hbel4); clear hown4 hbel4 hg4))
      all_goals go_wp2
      go_roundw
      case rel => exact ⟨k + 1, by omega, by go_num, by rw [Ht.out, flat_append]; exact Hown4.out, Hbel4.out⟩
      case measure => simp [intOf]; omega
    · have hkn : k = n := by omega
      have Hown := Lib.hid hown; have Hbel := Lib.hid hbel; have Hk := Lib.hid hkn
      clear hown hbel hkn
      go_wp2
      go_ret
      have e : l.take k = l := List.take_of_length_le (by have := Hl.out; have := Hk.out; omega)
      refine ⟨A', _, c', rfl, ?_, ?_, Hbel.out⟩
      · have := Rd.of_own Hown.out; rwa [e] at this
      · have := Hl.out; have := Hk.out; omega
end Go.Proofs.YtigolkdclacikaaDoor
