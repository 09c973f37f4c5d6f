/- The walks of layer 1's NewReader, Err, Left, End. Conditions: bounds on lengths. -/
import Derived.Test.YtecolkpnllikaaaDoorReader
import Derived.Deep.QuietTactic
import Derived.BigQuiet
namespace Go.Proofs.YtecolkpnllikaaaDoor
open Go.RowKit Go.Lib

def endRS (s : RS) : Int := if s.err ≠ 0 then s.err else if s.at_ < s.l.length then 5 else 0
/-- A new reader's state lies in a new block. -/
def NewR (w : World) (l : List Nat) (e : Ending) (w' : World) : Prop :=
  ∃ b, e = .returned (.pointer (some ⟨b, 0, none⟩)) ∧ RdAt w' b ⟨l, 0, 0⟩ ∧ w.heap.size ≤ b ∧ Below w.heap.size w w'
set_option maxRecDepth 100000 in
set_option maxHeartbeats 1000000 in
theorem newReader_any (A : Option Addr) (n c : Nat) (l : List Nat) (w : World) (hr : Rd w w.heap.size 1 A n (bv l)) (hn : n ≤ 1000000000) (hb : ∀ x ∈ l, x < 256) :
    Calls Tryd.prog 47 #[.slice A n c] w (NewR w l) := by
  have Hr := Lib.hid hr; have Hb := Lib.hid hb; clear hr hb
  have Hl : Hid (l.length = n) := by show _ = _; have := Hr.out.1; rw [bv_len] at this; omega
  go_enter Tryd.func47, Tryd.ntmps47
  go_wp2_with fail
  refine (fresh_any A n c 0 l w Hr.out hn (by omega)).mono ?_
  rintro e w1 ⟨A1, n1, c1, rfl, hown1, hn1, hb1⟩
  have Hown1 := Lib.hid hown1; have Hn1 := Lib.hid hn1; have Hb1 := Lib.hid hb1; clear hown1 hn1 hb1
  go_wp2
  go_ret
  refine ⟨w1.heap.size, rfl, ⟨A1, n1, c1, heap_alloc_new w1 _, ?_, own_cap Hown1.out, Nat.zero_le _, by have := Hn1.out; have := Hl.out; omega, Hb.out⟩, Hb1.out.size, Hb1.out.alloc Hb1.out.size _⟩
  exact (Rd.of_own Hown1.out).alloc (Nat.le_refl _) _
set_option maxRecDepth 100000 in
theorem err_any (b : Nat) (s : RS) (w : World) (h : RdAt w b s) : Calls Tryd.prog 68 #[.pointer (some ⟨b, 0, none⟩)] w fun e w' => e = .returned (.int .i64 s.err) ∧ w = w' := by
  obtain ⟨A, n, c, h1, _⟩ := h
  have h2 := block_cell h1 2
  simp at h2
  clear h1
  go_enter Tryd.func68, Tryd.ntmps68
  go_wp2
  go_ret
  exact ⟨rfl, rfl⟩
set_option maxRecDepth 100000 in
theorem left_any (b : Nat) (s : RS) (w : World) (h : RdAt w b s) : Calls Tryd.prog 70 #[.pointer (some ⟨b, 0, none⟩)] w fun e w' => e = .returned (.int .i64 ((s.l.length : Int) - (s.at_ : Int))) ∧ ∃ k, w' = w.drewN k := by
  obtain ⟨A, n, c, h1, h2, h3, h4, h5, _⟩ := h
  have hl : s.l.length = n := by have := h2.1; rw [bv_len] at this; omega
  have Hl := Lib.hid hl
  have g0 := block_cell h1 0
  have g1 := block_cell h1 1
  simp at g0 g1
  clear h1 h2 hl
  have h4' : (s.at_ : Int) ≤ (n : Int) := by omega
  have h5' : (n : Int) ≤ 1000000000 := by omega
  have e1 : IntKind.i64.wrap ((n : Int) - (s.at_ : Int)) = (n : Int) - (s.at_ : Int) := by rw [IntKind.wrap_i64]; omega
  go_enter Tryd.func70, Tryd.ntmps70
  go_wp2
  go_quiet (fail)
  go_wp2
  go_ret
  exact ⟨ret_int (by rw [Hl.out]), _, rfl⟩
set_option maxRecDepth 100000 in
theorem end_any (b : Nat) (s : RS) (w : World) (h : RdAt w b s) : Calls Tryd.prog 50 #[.pointer (some ⟨b, 0, none⟩)] w fun e w' => e = .returned (.int .i64 (endRS s)) ∧ ∃ k, w' = w.drewN k := by
  have H := Lib.hid h
  have hle : s.at_ ≤ s.l.length := by
    obtain ⟨A, n, c, h1, h2, h3, h4, h5, _⟩ := h
    have := h2.1; rw [bv_len] at this; omega
  clear h
  by_cases he : s.err = 0
  · have he' : (s.err != 0) = false := by simpa using he
    by_cases hlt : s.at_ < s.l.length
    · have hd : decide ((0 : Int) < (s.l.length : Int) - (s.at_ : Int)) = true := decide_eq_true (by omega)
      have Hres : Hid (endRS s = 5) := by show _ = _; unfold endRS; rw [if_neg (by simpa using he), if_pos hlt]
      clear he
      go_enter Tryd.func50, Tryd.ntmps50
      go_wp2_with fail
      refine (err_any b s w H.out).mono ?_
      rintro e w1 ⟨rfl, rfl⟩
      go_wp2_with fail
      refine (left_any b s w H.out).mono ?_
      rintro e w1 ⟨rfl, k, rfl⟩
      go_wp2
      go_ret
      exact ⟨by rw [Hres.out]; rfl, k, rfl⟩
    · have hd : decide ((0 : Int) < (s.l.length : Int) - (s.at_ : Int)) = false := decide_eq_false (by omega)
      have Hres : Hid (endRS s = 0) := by show _ = _; unfold endRS; rw [if_neg (by simpa using he), if_neg hlt]
      clear he
      go_enter Tryd.func50, Tryd.ntmps50
      go_wp2_with fail
      refine (err_any b s w H.out).mono ?_
      rintro e w1 ⟨rfl, rfl⟩
      go_wp2_with fail
      refine (left_any b s w H.out).mono ?_
      rintro e w1 ⟨rfl, k, rfl⟩
      go_wp2
      go_ret
      exact ⟨by rw [Hres.out]; rfl, k, rfl⟩
  · have he' : (s.err != 0) = true := by simpa using he
    have Hres : Hid (endRS s = s.err) := by show _ = _; unfold endRS; rw [if_pos (by simpa using he)]
    clear he
    go_enter Tryd.func50, Tryd.ntmps50
    go_wp2_with fail
    refine (err_any b s w H.out).mono ?_
    rintro e w1 ⟨rfl, rfl⟩
    go_wp2_with fail
    refine (err_any b s w H.out).mono ?_
    rintro e w1 ⟨rfl, rfl⟩
    go_wp2
    go_ret
    exact ⟨by rw [Hres.out]; rfl, 0, rfl⟩
end Go.Proofs.YtecolkpnllikaaaDoor
