/- The walks of bytes.Equal and bytes.Clone. Conditions: bounds on how many bytes. -/
import Derived.Test.YthjpaclcoipocaaGreatByt
import Derived.Test.YthjpaclcoipocaaGreatConv
import Derived.Shelf.Bytes.SlEqualAll
import Derived.Lib.SliceRun
namespace Go.Proofs.YthjpaclcoipocaaGreat
open Go.RowKit Go.Lib
set_option maxRecDepth 100000 in
theorem equal_any (A A' : Option Addr) (n c n' c' : Nat) (l x : List Nat) (w : World) (hr : Rd w w.heap.size 1 A n (bv l)) (hr' : Rd w w.heap.size 1 A' n' (bv x)) (hb : ∀ y ∈ l, y < 256) (hb' : ∀ y ∈ x, y < 256) :
    Calls Tryz.prog 18 #[.slice A n c, .slice A' n' c'] w fun e w' => e = .returned (.bool (sameB l x)) ∧ w = w' := by
  have h1 := conv_bytes hr c 9 Tryz.underlying9
  have h2 := conv_bytes hr' c' 9 Tryz.underlying9
  have Hs := Lib.hid (strS_eq hb hb')
  clear hr hr' hb hb'
  generalize strS l = s1 at *
  generalize strS x = s2 at *
  go_enter Tryz.func18, Tryz.ntmps18
  go_wp2
  go_ret
  exact ⟨ret_bool Hs.out, rfl⟩
set_option maxRecDepth 100000 in
set_option maxHeartbeats 1000000 in
theorem clone_any (A : Option Addr) (n c : Nat) (l : List Nat) (w : World) (hr : Rd w w.heap.size 1 A n (bv l)) (hn : n ≤ 400000000) :
    Calls Tryz.prog 14 #[.slice A n c] w (GivesB w l) := by
  obtain ⟨i0, hi, hz0, hz1, hz2⟩ := info_parts info_u8
  have HI := Lib.hid (And.intro hi (And.intro hz0 (And.intro hz1 hz2))); clear hi hz0 hz1 hz2
  have Hr := Lib.hid hr
  have Hl := Lib.hid hr.blen
  clear hr
  have hnil := fun (A : Option Addr) (w' : World) => Lib.run_eql_slice_nil (P := Tryz.prog) w' 24 5 A n c 0 0 Tryz.underlying24
  cases A with
  | none =>
    have hn0 : n = 0 := by
      rcases Nat.eq_zero_or_pos n with h0 | h0
      · exact h0
      · obtain ⟨_, _, h2, _⟩ := Hr.out.2 h0
        cases h2
    have Hn0 := Lib.hid hn0
    clear hn0
    go_enter Tryz.func14, Tryz.ntmps14
    go_wp2
    go_ret
    have hl0 : l = [] := List.eq_nil_of_length_eq_zero (by rw [Hl.out, Hn0.out])
    exact ⟨none, 0, 0, rfl, by rw [hl0]; exact World.ownsRow_nil _ _ _ _, by rw [hl0]; rfl, Below.refl _ _⟩
  | some a =>
    have Hown0 : Hid ((w.alloc (.cells #[] 5)).ownsRow w.heap.size 5 1 (.slice (some ⟨w.heap.size, 0, none⟩) 0 0) 0 (bv [])) :=
      World.ownsRow_made (base := w.heap.size) (e := 5) (size := 1) w #[] 0 (by simp) (by decide) rfl
    have Hr1 := Lib.hid (Hr.out.alloc (Nat.le_refl _) (.cells #[] 5))
    go_enter Tryz.func14, Tryz.ntmps14
    go_wp2_with (at_builtin; go_must (refine wpList_append_rd (w.alloc (.cells #[] 5)) (by rfl) _ _ 24 (by rfl) w.heap.size 5 i0 (.int .u8 0) 1 1 Tryz.underlying24 HI.out rfl (by decide) _ _ _ (by rfl) Hown0.out w.heap.size (some a) n c (bv l) (by rfl) Hr1.out (bv_one l) (by omega) (by omega) (by simp) ?_); intro v3 w3 hown3 hb3; have Hown3 := Lib.hid hown3; have Hb3 := Lib.hid (((Below.refl w.heap.size w).alloc (Nat.le_refl _) _).trans hb3); clear hown3 hb3)
    go_ret
    obtain ⟨A3, c3, rfl⟩ := own_form Hown3.out
    exact ⟨A3, 0 + n, c3, rfl, by have := Hown3.out; simpa [bv] using this, by rw [Hl.out]; omega, Hb3.out⟩
end Go.Proofs.YthjpaclcoipocaaGreat
