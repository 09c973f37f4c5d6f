/- Rows of digests cloned and compared; the map of a ledger's places. Conditions: bounds on how many. -/
import Derived.Test.YthjpaclcoipocaaGreatKeR
import Derived.Test.YthjpaclcoipocaaGreatKeH
import Derived.Test.YthjpaclcoipocaaGreatInv
import Derived.Test.YthjpaclcoipocaaGreatDigEq
import Derived.WalkLawsBesides
import Derived.Maps.Keyed
import Derived.DeepKeys4
import Derived.OpenShut
import Derived.Deep.RegionLaw
import Derived.RegionTactic
namespace Go.Proofs.YthjpaclcoipocaaGreat
open Go.RowKit Go.Lib
theorem flatD_one (L : List D8) : ∀ u ∈ flatD L, u.oneCell' = true := by
  intro u hu
  simp only [flatD, List.mem_flatMap] at hu
  obtain ⟨x, _, hx⟩ := hu
  simp [D8.cells] at hx
  rcases hx with rfl | rfl | rfl | rfl | rfl | rfl | rfl | rfl <;> rfl
theorem own_emptyD (u : World) (t : TypeId) (sz B : Nat) (hB : B ≤ u.heap.size) : (u.alloc (.cells #[] t)).ownsRow B t sz (.slice (some ⟨u.heap.size, 0, none⟩) 0 0) 0 [] :=
  ⟨by simp, .inr ⟨u.heap.size, 0, #[], rfl, hB, heap_alloc_new u _, by omega, by simp [maxLen], by simp, by simp⟩⟩
theorem info_Dg : (Tryz.prog.info? 30).map (fun i => (i.zero, i.size, i.bytes)) = some (some (.agg #[.int .u8 0, .int .u8 0, .int .u8 0, .int .u8 0, .int .u8 0, .int .u8 0, .int .u8 0, .int .u8 0]), 8, 8) := by kernel_rfl
set_option maxRecDepth 100000 in
set_option maxHeartbeats 2000000 in
theorem sdclone_any (L : List D8) (A : Option Addr) (n c : Nat) (w : World) (hr : Rd w w.heap.size 8 A n (flatD L)) (hn : n ≤ 1000000) :
    Calls Tryz.prog 37 #[.slice A n c] w fun r w' => ∃ A' c', r = .returned (.slice A' n c') ∧ w'.ownsRow w.heap.size 30 8 (.slice A' n c') n (flatD L) ∧ Below w.heap.size w w' := by
  cases A with
  | none =>
    have h0 : n = 0 := by
      rcases Nat.eq_zero_or_pos n with h0 | h0
      · exact h0
      · obtain ⟨_, _, h2, _⟩ := hr.2 h0
        cases h2
    subst h0
    have hL : flatD L = [] := List.eq_nil_of_length_eq_zero (by have := hr.1; omega)
    rw [hL]
    clear hr
    have heq : ∀ w : World, (binOp .eql 66 (.slice none 0 c) (.slice none 0 0)).run Tryz.prog w = .ok (.bool true) w := fun w => run_eql_slice_nil w _ _ none 0 c 0 0 Tryz.underlying66
    go_enter Tryz.func37, Tryz.ntmps37
    go_wp2
    go_ret
    exact ⟨none, 0, rfl, World.ownsRow_nil _ _ _ _, Below.refl _ _⟩
  | some a =>
    obtain ⟨i0, hi, hz0, hz1, hz2⟩ := info_parts info_Dg
    have HI := Lib.hid (And.intro hi (And.intro hz0 (And.intro hz1 hz2))); clear hi hz0 hz1 hz2
    have HO : Hid ((w.alloc (.cells #[] 30)).ownsRow w.heap.size 30 8 (.slice (some ⟨w.heap.size, 0, none⟩) 0 0) 0 []) := own_emptyD w _ _ _ (Nat.le_refl _)
    have Hr := Lib.hid ((hr.alloc (Nat.le_refl _) (.cells #[] 30)).more (B' := (w.alloc (.cells #[] 30)).heap.size) (by simp))
    have h1 := flatD_one L
    have Hu := Lib.hid Tryz.underlying66
    have heq : ∀ w : World, (binOp .eql 66 (.slice (some a) n c) (.slice none 0 0)).run Tryz.prog w = .ok (.bool false) w := fun w => run_eql_slice_nil w _ _ (some a) n c 0 0 Tryz.underlying66
    clear hr
    go_enter Tryz.func37, Tryz.ntmps37
    go_wp2_with (at_builtin; go_must (refine wpList_append_rd (w.alloc (.cells #[] 30)) (by rfl) _ _ 66 (by rfl) w.heap.size 30 i0 (.agg #[.int .u8 0, .int .u8 0, .int .u8 0, .int .u8 0, .int .u8 0, .int .u8 0, .int .u8 0, .int .u8 0]) 8 8 Hu.out HI.out rfl (by decide) _ _ _ (by rfl) HO.out (w.alloc (.cells #[] 30)).heap.size (some a) n c _ (by rfl) Hr.out h1 (by omega) (by omega) (by simp) ?_); intro v4 w4 ho4 hb4; obtain ⟨A4, c4, rfl⟩ := own_form ho4; simp only [Nat.zero_add, List.nil_append] at ho4; have HO4 := Lib.hid ho4; have Hb4 := Lib.hid ((h_one w (.cells #[] 30)).trans (hb4.mono (Nat.le_refl _))); clear ho4 hb4)
    go_ret
    exact ⟨A4, c4, by simp, HO4.out, Hb4.out⟩
def sameD (a b : D8) : Bool := eqI a.L b.L
theorem sameD_iff {a b : D8} : sameD a b = true ↔ a = b := eqN_iff
instance : DecidableEq D8 := fun _ _ => decidable_of_iff _ sameD_iff
theorem listD_no {L M : List D8} {k : Nat} (h : sameD (L.getD k D8.zero) (M.getD k D8.zero) = false) : decide (L = M) = false := by
  refine decide_eq_false ?_
  rintro rfl
  rw [sameD_iff.2 rfl] at h
  simp at h
theorem listD_yes {L M : List D8} (hl : L.length = M.length) (h : ∀ k, k < L.length → sameD (L.getD k D8.zero) (M.getD k D8.zero) = true) : decide (L = M) = true := by
  refine decide_eq_true (List.ext_getElem hl fun k h1 h2 => ?_)
  have := sameD_iff.1 (h k h1)
  simpa [List.getD_eq_getElem?_getD, h1, h2] using this
end Go.Proofs.YthjpaclcoipocaaGreat
