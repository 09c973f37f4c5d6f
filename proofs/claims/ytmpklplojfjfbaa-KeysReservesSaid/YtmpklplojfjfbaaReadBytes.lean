/- The walk of layer 1's Reader.Bytes. Conditions: bounds on lengths. -/
import Derived.Test.YtmpklplojfjfbaaReadEnd
namespace Go.Proofs.Ytmpklplojfjfbaa
open Go.RowKit Go.Lib

/-- What one read of bytes comes to: how far behind, the error, the bytes. -/
def takeB (l : List Nat) (most : Nat) : Nat × Int × List Nat :=
  if (lookN l).2.2 ≠ 0 then (0, (lookN l).2.2, [])
  else if most < (lookN l).1 then (0, 2, [])
  else if l.length - (lookN l).2.1 < (lookN l).1 then (0, 4, [])
  else ((lookN l).2.1 + (lookN l).1, 0, (l.drop (lookN l).2.1).take (lookN l).1)
theorem takeB_len (l : List Nat) (most : Nat) : (takeB l most).1 ≤ l.length := by
  have := lookN_len l
  unfold takeB
  split
  · simp
  · split
    · simp
    · split
      · simp
      · simp only; omega
set_option maxRecDepth 100000 in
set_option maxHeartbeats 1000000 in
theorem bytes1_bad (A : Option Addr) (n c most : Nat) (b3 b5 : Nat) (l : List Nat) (w : World) (hr : Rd w w.heap.size 1 A n (bv l)) (hn : n ≤ 1000000000) (hb : ∀ x ∈ l, x < 256)
    (h3 : w.cell? ⟨b3, 0, none⟩ = some (.int .u64 (most : Int))) (he : (takeB l most).2.1 ≠ 0) :
    Calls Try.prog 70 #[.slice A n c, .pointer (some ⟨b3, 0, none⟩), .pointer (some ⟨b5, 0, none⟩)] w fun e w' => e = .returned (.tuple #[.int .i64 0, .int .i64 (takeB l most).2.1]) ∧ w = w' := by
  have Hl : Hid (l.length = n) := by show _ = _; have := hr.1; rw [bv_len] at this; omega
  have hll := lookN_len l
  have hll2 : (lookN l).2.1 ≤ n := by rw [← Hl.out]; exact hll
  have Hr := Lib.hid hr; have Hb := Lib.hid hb; clear hr hb hll
  have hn' : (n : Int) ≤ 1000000000 := by omega
  have Hlk := fun (w1 : World) (hr1 : Rd w1 w1.heap.size 1 A n (bv l)) => look_any A n c l w1 hr1 hn Hb.out
  by_cases h1 : (lookN l).2.2 ≠ 0
  · have hne : ((lookN l).2.2 != 0) = true := by simpa using h1
    have Ht : Hid ((takeB l most).2.1 = (lookN l).2.2) := by show _ = _; unfold takeB; rw [if_pos h1]
    clear h1 he
    go_enter Try.func70, Try.ntmps70
    go_wp2_with (go_at_call 71; refine (Hlk _ Hr.out).mono ?_; rintro e w' ⟨rfl, rfl⟩)
    go_ret2
    exact ⟨by rw [Ht.out]; rfl, rfl⟩
  · have h0 : (lookN l).2.2 = 0 := by simpa using h1
    have hne : ((lookN l).2.2 != 0) = false := by simpa using h0
    by_cases h2 : most < (lookN l).1
    · have hgt : decide ((most : Int) < ((lookN l).1 : Int)) = true := decide_eq_true (by omega)
      have Ht : Hid ((takeB l most).2.1 = 2) := by show _ = _; unfold takeB; rw [if_neg h1, if_pos h2]
      clear h1 he h0
      go_enter Try.func70, Try.ntmps70
      go_wp2_with (go_at_call 71; refine (Hlk _ Hr.out).mono ?_; rintro e w' ⟨rfl, rfl⟩)
      go_ret2
      exact ⟨by rw [Ht.out]; rfl, rfl⟩
    · have h3' : l.length - (lookN l).2.1 < (lookN l).1 := by
        unfold takeB at he
        rw [if_neg h1, if_neg h2] at he
        split at he
        · assumption
        · simp at he
      have hgt : decide ((most : Int) < ((lookN l).1 : Int)) = false := decide_eq_false (by omega)
      rw [Hl.out] at h3'
      have Ht : Hid ((takeB l most).2.1 = 4) := by show _ = _; unfold takeB; rw [if_neg h1, if_neg h2, if_pos (by rw [Hl.out]; exact h3')]
      have hgt2 : decide ((n : Int) - ((lookN l).2.1 : Int) < ((lookN l).1 : Int)) = true := decide_eq_true (by omega)
      have e1 : IntKind.u64.wrap ((n : Int) - ((lookN l).2.1 : Int)) = (n : Int) - ((lookN l).2.1 : Int) := by rw [IntKind.wrap_u64]; omega
      clear h1 he h0
      generalize (lookN l).2.1 = sz at *
      have hsz : (sz : Int) ≤ (n : Int) := by omega
      go_enter Try.func70, Try.ntmps70
      go_wp2_with (go_at_call 71; refine (Hlk _ Hr.out).mono ?_; rintro e w' ⟨rfl, rfl⟩)
      go_ret2
      exact ⟨by rw [Ht.out]; rfl, rfl⟩

set_option maxRecDepth 100000 in
set_option maxHeartbeats 1000000 in
theorem bytes1_good (A : Option Addr) (n c most : Nat) (b3 b5 : Nat) (v0 : Value) (t0 : TypeId) (l : List Nat) (w : World) (hr : Rd w w.heap.size 1 A n (bv l)) (hn : n ≤ 1000000000) (hnc : n ≤ c) (hb : ∀ x ∈ l, x < 256)
    (h3 : w.cell? ⟨b3, 0, none⟩ = some (.int .u64 (most : Int))) (h5 : w.heap[b5]? = some (.cells #[v0] t0 (0, 0))) (he : (takeB l most).2.1 = 0) :
    Calls Try.prog 70 #[.slice A n c, .pointer (some ⟨b3, 0, none⟩), .pointer (some ⟨b5, 0, none⟩)] w fun e w' => e = .returned (.tuple #[.int .i64 ((takeB l most).1 : Int), .int .i64 0]) ∧
      ∃ A1 n1 c1 w1, w1.ownsRow w.heap.size 5 1 (.slice A1 n1 c1) n1 (bv (takeB l most).2.2) ∧ n1 = (takeB l most).2.2.length ∧ Below w.heap.size w w1 ∧ w' = w1.setCell ⟨b5, 0, none⟩ (.slice A1 n1 c1) := by
  have Hl : Hid (l.length = n) := by show _ = _; have := hr.1; rw [bv_len] at this; omega
  have hll := lookN_len l
  have hll2 : (lookN l).2.1 ≤ n := by rw [← Hl.out]; exact hll
  have h1 : (lookN l).2.2 = 0 := by
    unfold takeB at he
    split at he
    · exact he
    · rename_i h; simpa using h
  have h2 : (lookN l).1 ≤ most := by
    unfold takeB at he
    rw [if_neg (by simp [h1])] at he
    split at he
    · simp at he
    · omega
  have h2' : (lookN l).1 ≤ n - (lookN l).2.1 := by
    unfold takeB at he
    rw [if_neg (by simp [h1]), if_neg (by omega), Hl.out] at he
    split at he
    · simp at he
    · omega
  have Ht : Hid (takeB l most = ((lookN l).2.1 + (lookN l).1, 0, (l.drop (lookN l).2.1).take (lookN l).1)) := by
    show _ = _
    unfold takeB; rw [if_neg (by simp [h1]), if_neg (by omega), if_neg (by rw [Hl.out]; omega)]
  obtain ⟨A2, hrun, hrd⟩ := slice_range elem_u8 sizeOf_u8 hr hnc (k := (lookN l).2.1) (m := (lookN l).2.1 + (lookN l).1) (by omega) (by omega)
  have e0 : (lookN l).2.1 + (lookN l).1 - (lookN l).2.1 = (lookN l).1 := by omega
  rw [e0] at hrd hrun
  have Hrd : Hid (Rd w w.heap.size 1 A2 (lookN l).1 (bv ((l.drop (lookN l).2.1).take (lookN l).1))) := by
    show Rd _ _ _ _ _ _
    rw [bv_take, bv_drop]; simpa using hrd
  have hrun' : ∀ w', (Instr.sliceAt 32 (.slice A n c) (some (.int .i64 ((lookN l).2.1 : Int))) (some (.int .i64 (((lookN l).2.1 : Int) + ((lookN l).1 : Int)))) none).run Try.prog w' = .ok (.slice A2 (lookN l).1 (c - (lookN l).2.1)) w' := by
    intro w'; have := hrun w'; rwa [Int.natCast_add] at this
  clear hrun hrd e0
  have Hr := Lib.hid hr; have Hb := Lib.hid hb
  have hne : ((lookN l).2.2 != 0) = false := by simpa using h1
  have hgt : decide ((most : Int) < ((lookN l).1 : Int)) = false := decide_eq_false (by omega)
  have hgt2 : decide ((n : Int) - ((lookN l).2.1 : Int) < ((lookN l).1 : Int)) = false := decide_eq_false (by omega)
  have Hlk := fun (w1 : World) (hr1 : Rd w1 w1.heap.size 1 A n (bv l)) => look_any A n c l w1 hr1 hn Hb.out
  have H5 := Lib.hid h5
  have hlt5 := block_lt h5
  clear he hr hb hll h1 h5
  have hlen : ((l.drop (lookN l).2.1).take (lookN l).1).length = (lookN l).1 := by rw [List.length_take, List.length_drop, Hl.out]; omega
  have Hlen := Lib.hid hlen
  clear hlen
  generalize (l.drop (lookN l).2.1).take (lookN l).1 = res at *
  generalize (lookN l).2.1 = sz at *
  generalize (lookN l).1 = v at *
  have hszn : (sz : Int) ≤ (n : Int) := by omega
  have hvn : (v : Int) ≤ (n : Int) - (sz : Int) := by omega
  have hn' : (n : Int) ≤ 1000000000 := by omega
  go_enter Try.func70, Try.ntmps70
  go_wp2_with fail
  refine (Hlk _ Hr.out).mono ?_
  rintro e w' ⟨rfl, rfl⟩
  go_wp2_with fail
  refine (fresh_any A2 v (c - sz) 0 res w Hrd.out (by omega) (by omega)).mono ?_
  rintro e w1 ⟨A1, n1, c1, rfl, hown1, hn1, hb1⟩
  have f5 := block_free (block_below H5.out hb1 hlt5) 0
  have g5 := block_cell (block_below H5.out hb1 hlt5) 0
  simp at g5
  have Hown1 := Lib.hid hown1; have Hn1 := Lib.hid hn1; have Hb1 := Lib.hid hb1; clear hown1 hn1 hb1
  go_wp2
  go_ret2
  rw [Ht.out]
  exact ⟨rfl, A1, n1, c1, w1, Hown1.out, Hn1.out, Hb1.out, rfl⟩
end Go.Proofs.Ytmpklplojfjfbaa
