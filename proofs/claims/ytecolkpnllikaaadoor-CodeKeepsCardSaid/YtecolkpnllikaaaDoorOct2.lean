/- The walks of layer 1 (octet): a fresh copy of bytes, a number's bytes, bytes with how many they are, put behind others. Conditions: bounds on lengths. -/
import Derived.Test.YtecolkpnllikaaaDoorOct
import Derived.Test.YtecolkpnllikaaaDoorAppend
namespace Go.Proofs.YtecolkpnllikaaaDoor
open Go.RowKit Go.Lib

theorem bv_one (l : List Nat) : ∀ u ∈ bv l, u.oneCell' = true := by
  intro u hu
  simp only [bv, List.mem_map] at hu
  obtain ⟨x, _, rfl⟩ := hu
  rfl
/-- Bytes handed back in a row of the call's own. -/
def GivesB (w : World) (l : List Nat) (e : Ending) (w' : World) : Prop :=
  ∃ A n c, e = .returned (.slice A n c) ∧ w'.ownsRow w.heap.size 5 1 (.slice A n c) n (bv l) ∧ n = l.length ∧ Below w.heap.size w w'

set_option maxRecDepth 100000 in
set_option maxHeartbeats 1000000 in
theorem fresh_any (A : Option Addr) (n c more : Nat) (l : List Nat) (w : World) (hr : Rd w w.heap.size 1 A n (bv l)) (hn : n ≤ 1000000000) (hm : more ≤ 1000000000) :
    Calls Tryd.prog 64 #[.slice A n c, .int .i64 (more : Int)] w (GivesB w l) := by
  obtain ⟨i0, hi, hz0, hz1, hz2⟩ := info_parts info_u8
  have HI := Lib.hid (And.intro hi (And.intro hz0 (And.intro hz1 hz2))); clear hi hz0 hz1 hz2
  have hl : l.length = n := by have := hr.1; rw [bv_len] at this; omega
  have Hl := Lib.hid hl; have Hr := Lib.hid hr; clear hl hr
  go_enter Tryd.func64, Tryd.ntmps64
  go_wp2_with (first
    | (at_make; go_must (refine wpList_make_own w (by rfl) _ _ 48 (by rfl) w.heap.size 5 i0 (.int .u8 0) 1 Tryd.underlying48 HI.out.1 HI.out.2.1 HI.out.2.2.1 .i64 .i64 _ (n + more) (by rfl) (by rfl) (by simp) (by rw [HI.out.2.2.2]; omega) (by simp only [maxLen]; omega) (Nat.le_refl _) ?_); intro w1 hown1 hg1; have Hb1 := Lib.hid (below_of_grown hg1 (Nat.le_refl _) (by simp)); have Hown1 := Lib.hid hown1; clear hown1 hg1)
    | (at_builtin; go_must (refine wpList_append_rd w1 (by rfl) _ _ 48 (by rfl) w.heap.size 5 i0 (.int .u8 0) 1 1 Tryd.underlying48 HI.out rfl (by decide) _ _ _ (by rfl) Hown1.out w.heap.size A n c (bv l) (by rfl) (Hr.out.below Hb1.out (Nat.le_refl _)) (bv_one l) (by omega) (by omega) Hb1.out.size ?_); intro v2 w2 hown2 hb2; have Hown2 := Lib.hid hown2; have Hb2 := Lib.hid (Hb1.out.trans hb2); clear hown2 hb2))
  go_ret
  obtain ⟨A2, c2, rfl⟩ := own_form Hown2.out
  exact ⟨A2, 0 + n, c2, rfl, by simpa using Hown2.out, by rw [Hl.out]; simp, Hb2.out⟩

set_option maxRecDepth 100000 in
set_option maxHeartbeats 1000000 in
theorem putNum_any (A : Option Addr) (n c m : Nat) (l : List Nat) (w : World) (hr : Rd w w.heap.size 1 A n (bv l)) (hn : n ≤ 900000000) (hm : m < 18446744073709551616) :
    Calls Tryd.prog 43 #[.slice A n c, .int .u64 (m : Int)] w (GivesB w (l ++ encN m)) := by
  have Hr := Lib.hid hr; have Hm := Lib.hid hm; clear hr hm
  have hl : Hid (l.length = n) := by show _ = _; have := Hr.out.1; rw [bv_len] at this; omega
  go_enter Tryd.func43, Tryd.ntmps43
  go_wp2_with fail
  refine (fresh_any A n c 10 l w Hr.out (by omega) (by omega)).mono ?_
  rintro e w1 ⟨A1, n1, c1, rfl, hown1, hn1, hb1⟩
  have hn1' : n1 ≤ 1000000000 := by rw [hn1, hl.out]; omega
  have Hown1 := Lib.hid hown1; have Hn1 := Lib.hid hn1; have Hb1 := Lib.hid hb1; clear hown1 hn1 hb1
  go_wp2_with fail
  refine (number_any w.heap.size n1 c1 A1 m (bv l) w1 Hown1.out Hb1.out.size hn1' Hm.out).mono ?_
  rintro e w2 ⟨A2, c2, rfl, hown2, hb2⟩
  have Hown2 := Lib.hid hown2; have Hb2 := Lib.hid (Hb1.out.trans hb2); clear hown2 hb2
  go_wp2
  go_ret
  exact ⟨A2, _, c2, rfl, by rw [bv_append]; exact Hown2.out, by rw [Hn1.out, List.length_append], Hb2.out⟩
end Go.Proofs.YtecolkpnllikaaaDoor
