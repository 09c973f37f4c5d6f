/- The walk of bytes.Clone: a copy of a slice's bytes. Condition: bounds on how many. -/
import Derived.Test.YtepdinfopcohiaaNoM
namespace Go.Proofs.Ytepdinfopcohiaa
open Go.RowKit Go.Lib
theorem info_u8 : (Try.prog.info? 5).map (fun i => (i.zero, i.size, i.bytes)) = some (some (.int .u8 0), 1, 1) := by kernel_rfl
theorem bvN_one (l : List Nat) : ∀ u ∈ bvN l, u.oneCell' = true := by
  intro u hu
  simp only [bvN, List.mem_map] at hu
  obtain ⟨x, _, rfl⟩ := hu
  rfl
theorem own_empty (u : World) (t : TypeId) (sz B : Nat) (hB : B ≤ u.heap.size) : (u.alloc (.cells #[] t)).ownsRow B t sz (.slice (some ⟨u.heap.size, 0, none⟩) 0 0) 0 [] :=
  ⟨by simp, .inr ⟨u.heap.size, 0, #[], rfl, hB, heap_alloc_new u _, by omega, by simp, by simp, by simp⟩⟩
set_option maxRecDepth 100000 in
set_option maxHeartbeats 2000000 in
theorem bclone_any (s : List Nat) (A : Option Addr) (n c : Nat) (w : World) (hr : Rd w w.heap.size 1 A n (bvN s)) (hn : n ≤ 1000000) :
    Calls Try.prog 32 #[.slice A n c] w fun r w' => ∃ A' c', r = .returned (.slice A' n c') ∧ Rd w' w'.heap.size 1 A' n (bvN s) ∧ Below w.heap.size w w' := by
  cases A with
  | none =>
    have h0 : n = 0 := by
      rcases Nat.eq_zero_or_pos n with h0 | h0
      · exact h0
      · obtain ⟨_, _, h2, _⟩ := hr.2 h0
        cases h2
    subst h0
    have Hr := Lib.hid hr
    clear hr
    have heq : ∀ w : World, (binOp .eql 37 (.slice none 0 c) (.slice none 0 0)).run Try.prog w = .ok (.bool true) w := fun w => run_eql_slice_nil w _ _ none 0 c 0 0 Try.underlying37
    go_enter Try.func32, Try.ntmps32
    go_wp2
    go_ret
    exact ⟨none, 0, rfl, ⟨Hr.out.1, fun h => absurd h (by omega)⟩, Below.refl _ _⟩
  | some a =>
    obtain ⟨i0, hi, hz0, hz1, hz2⟩ := info_parts info_u8
    have HI := Lib.hid (And.intro hi (And.intro hz0 (And.intro hz1 hz2))); clear hi hz0 hz1 hz2
    have HO : Hid ((w.alloc (.cells #[] 5)).ownsRow w.heap.size 5 1 (.slice (some ⟨w.heap.size, 0, none⟩) 0 0) 0 []) := own_empty w _ _ _ (Nat.le_refl _)
    have Hr := Lib.hid ((hr.alloc (Nat.le_refl _) (.cells #[] 5)).more (B' := (w.alloc (.cells #[] 5)).heap.size) (by simp))
    have h1 := bvN_one s
    have Hu := Lib.hid Try.underlying37
    clear hr
    have heq : ∀ w : World, (binOp .eql 37 (.slice (some a) n c) (.slice none 0 0)).run Try.prog w = .ok (.bool false) w := fun w => run_eql_slice_nil w _ _ (some a) n c 0 0 Try.underlying37
    go_enter Try.func32, Try.ntmps32
    go_wp2_with (at_builtin; go_must (refine wpList_append_rd (w.alloc (.cells #[] 5)) (by rfl) _ _ 37 (by rfl) w.heap.size 5 i0 (.int .u8 0) 1 1 Hu.out HI.out rfl (by decide) _ _ _ (by rfl) HO.out (w.alloc (.cells #[] 5)).heap.size (some a) n c _ (by rfl) Hr.out h1 (by omega) (by omega) (by simp) ?_); intro v4 w4 ho4 hb4; obtain ⟨A4, c4, rfl⟩ := own_form ho4; simp only [Nat.zero_add, List.nil_append] at ho4; have HO4 := Lib.hid ho4; have Hb4 := Lib.hid ((below_one w (.cells #[] 5)).trans (hb4.mono (Nat.le_refl _))); clear ho4 hb4)
    go_ret
    exact ⟨A4, c4, by simp, Rd.of_own HO4.out, Hb4.out⟩
end Go.Proofs.Ytepdinfopcohiaa
