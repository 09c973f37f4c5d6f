/- Lists of instructions in memory; the walks of Of and To, that hand them over from the reference's type to the program's and back. Condition: a bound on how many. -/
import Derived.Test.YtecolkpnllikaaaDoorCodeA
namespace Go.Proofs.YtecolkpnllikaaaDoor
open Go.RowKit Go.Lib

structure Ins where
  op : Int
  a : Int
  b : Int
  c : Int
instance : Inhabited Ins := ⟨⟨0, 0, 0, 0⟩⟩
def Ins.cells (i : Ins) : List Value := [.int .i64 i.op, .int .i64 i.a, .int .i64 i.b, .int .i64 i.c]
def flat (l : List Ins) : List Value := l.flatMap Ins.cells
theorem flat_len (l : List Ins) : (flat l).length = l.length * 4 := by
  induction l with
  | nil => rfl
  | cons i l ih =>
    have : flat (i :: l) = i.cells ++ flat l := by simp [flat]
    rw [this, List.length_append, ih]; simp [Ins.cells]; omega
theorem flat_append (l m : List Ins) : flat (l ++ m) = flat l ++ flat m := by simp [flat]
theorem flat_at : ∀ (l : List Ins) (k j : Nat), k < l.length → j < 4 → (flat l)[k * 4 + j]? = (l.getD k default).cells[j]? := by
  intro l
  induction l with
  | nil => intro k j h _; exact absurd h (by simp)
  | cons i l ih =>
    intro k j h hj
    have e : flat (i :: l) = i.cells ++ flat l := by simp [flat]
    rw [e]
    cases k with
    | zero =>
      rw [List.getElem?_append_left (by simp [Ins.cells]; omega)]
      simp
    | succ k =>
      rw [List.getElem?_append_right (by simp [Ins.cells]; omega)]
      have h1 : (k + 1) * 4 + j - i.cells.length = k * 4 + j := by simp [Ins.cells]; omega
      rw [h1, ih k j (by simpa using h) hj]
      simp
theorem take_ins {l : List Ins} {k : Nat} (h : k < l.length) : l.take (k + 1) = l.take k ++ [l.getD k default] := by
  rw [List.take_succ_eq_append_getElem h, List.getD_eq_getElem?_getD, List.getElem?_eq_getElem h]; rfl

/-- The four cells of element k. -/
theorem Rd.ins {w : World} {B n : Nat} {A : Option Addr} {l : List Ins} (h : Rd w B 4 A n (flat l)) {k : Nat} (hk : k < n) :
    ∃ b o, A = some ⟨b, o, none⟩ ∧ b < B ∧ w.cell? ⟨b, o + k * 4, none⟩ = some (.int .i64 (l.getD k default).op) ∧ w.cell? ⟨b, o + k * 4 + 1, none⟩ = some (.int .i64 (l.getD k default).a) ∧
      w.cell? ⟨b, o + k * 4 + 2, none⟩ = some (.int .i64 (l.getD k default).b) ∧ w.cell? ⟨b, o + k * 4 + 3, none⟩ = some (.int .i64 (l.getD k default).c) := by
  have hl : l.length = n := by have := h.1; rw [flat_len] at this; omega
  obtain ⟨b, o, e, hb, hc⟩ := h.2 (by omega)
  refine ⟨b, o, e, hb, ?_, ?_, ?_, ?_⟩
  · exact hc (k * 4 + 0) _ (flat_at l k 0 (by omega) (by omega))
  · exact hc (k * 4 + 1) _ (flat_at l k 1 (by omega) (by omega))
  · exact hc (k * 4 + 2) _ (flat_at l k 2 (by omega) (by omega))
  · exact hc (k * 4 + 3) _ (flat_at l k 3 (by omega) (by omega))

theorem info_I : (Tryd.prog.info? 23).map (fun i => (i.zero, i.size, i.bytes)) = some (some (.agg #[.int .i64 0, .int .i64 0, .int .i64 0, .int .i64 0]), 4, 32) := by kernel_rfl
theorem info_Instr : (Tryd.prog.info? 24).map (fun i => (i.zero, i.size, i.bytes)) = some (some (.agg #[.int .i64 0, .int .i64 0, .int .i64 0, .int .i64 0]), 4, 32) := by kernel_rfl

/-- A list of instructions handed back as a slice. -/
def GivesIns (w : World) (l : List Ins) (e : Ending) (w' : World) : Prop := ∃ A n c, e = .returned (.slice A n c) ∧ Rd w' w'.heap.size 4 A n (flat l) ∧ n = l.length ∧ Below w.heap.size w w'

set_option maxRecDepth 100000 in
set_option maxHeartbeats 1000000 in
theorem of_any (A : Option Addr) (n c : Nat) (l : List Ins) (w : World) (hr : Rd w w.heap.size 4 A n (flat l)) (hn : n ≤ 1000000) :
    Calls Tryd.prog 21 #[.slice A n c] w (GivesIns w l) := by
  obtain ⟨i0, hi, hz0, hz1, hz2⟩ := info_parts info_Instr
  have HI := Lib.hid (And.intro hi (And.intro hz0 (And.intro hz1 hz2))); clear hi hz0 hz1 hz2
  have hl : l.length = n := by have := hr.1; rw [flat_len] at this; omega
  have Hl := Lib.hid hl
  have Hr := Lib.hid hr
  clear hl hr
  go_enter Tryd.func21, Tryd.ntmps21
  go_wp2
  go_loopw [3, 8] (fun v i wr => ∃ k : Nat, k ≤ n ∧ i = .int .i64 k ∧ wr.ownsRow w.heap.size 24 4 v k (flat (l.take k)) ∧ Below w.heap.size w wr) (fun _ i _ => n - (intOf i).toNat)
  case atStart => exact ⟨0, Nat.zero_le _, rfl, World.ownsRow_nil _ _ _ _, Below.refl _ _⟩
  case round =>
    obtain ⟨k, hk, rfl, hown, hbel⟩ := hrel
    obtain ⟨A', c', rfl⟩ := own_form hown
    by_cases hlt : k < n
    · obtain ⟨b, o, rfl, hbB, x0, x1, x2, x3⟩ := (Hr.out.below hbel (Nat.le_refl _)).ins hlt
      have Ht := Lib.hid (take_ins (l := l) (k := k) (by have := Hl.out; omega))
      generalize l.getD k default = i at *
      obtain ⟨op, a, b', c''⟩ := i
      simp only at x0 x1 x2 x3
      have hsz := hbel.size
      have Hown := Lib.hid (hown.alloc (.cells #[.int .i64 op, .int .i64 a, .int .i64 b', .int .i64 c''] 23))
      have Hbel := Lib.hid (hbel.alloc hsz (.cells #[.int .i64 op, .int .i64 a, .int .i64 b', .int .i64 c''] 23))
      clear hown hbel
      have hi0 : (0 : Int) ≤ (k : Int) := by omega
      have hi1 : (k : Int) < (n : Int) := by omega
      go_wp2_with (at_builtin; go_must (refine wpList_append_lit (wr.alloc (.cells #[.int .i64 op, .int .i64 a, .int .i64 b', .int .i64 c''] 23)) (by rfl) _ _ 40 (by rfl) w.heap.size 24 i0 (.agg #[.int .i64 0, .int .i64 0, .int .i64 0, .int .i64 0]) 4 32 Tryd.underlying40 HI.out rfl (by decide) _ _ _ (by rfl) Hown.out 1 1 #[.int .i64 op, .int .i64 a, .int .i64 b', .int .i64 c''] 24 (by simp [Act.eval]) rfl (by simp [Value.oneCell']) (by omega) (by omega) (by simp; omega) ?_); intro v4 w4 hown4 hbel4)
      have Hown4 := Lib.hid hown4; have Hbel4 := Lib.hid (Hbel.out.trans hbel4); clear hown4 hbel4
      go_wp2
      go_roundw
      case rel => exact ⟨k + 1, by omega, by go_num, by rw [Ht.out, flat_append]; exact Hown4.out, Hbel4.out⟩
      case measure => simp [intOf]; omega
    · have hkn : k = n := by omega
      have Hown := Lib.hid hown; have Hbel := Lib.hid hbel; have Hk := Lib.hid hkn
      clear hown hbel hkn
      go_wp2
      go_ret
      have e : l.take k = l := List.take_of_length_le (by have := Hl.out; have := Hk.out; omega)
      refine ⟨A', _, c', rfl, ?_, ?_, Hbel.out⟩
      · have := Rd.of_own Hown.out; rwa [e] at this
      · have := Hl.out; have := Hk.out; omega
set_option maxRecDepth 100000 in
set_option maxHeartbeats 1000000 in
theorem to_any (A : Option Addr) (n c : Nat) (l : List Ins) (w : World) (hr : Rd w w.heap.size 4 A n (flat l)) (hn : n ≤ 1000000) :
    Calls Tryd.prog 30 #[.slice A n c] w (GivesIns w l) := by
  obtain ⟨i0, hi, hz0, hz1, hz2⟩ := info_parts info_I
  have HI := Lib.hid (And.intro hi (And.intro hz0 (And.intro hz1 hz2))); clear hi hz0 hz1 hz2
  have hl : l.length = n := by have := hr.1; rw [flat_len] at this; omega
  have Hl := Lib.hid hl
  have Hr := Lib.hid hr
  clear hl hr
  go_enter Tryd.func30, Tryd.ntmps30
  go_wp2
  go_loopw [3, 8] (fun v i wr => ∃ k : Nat, k ≤ n ∧ i = .int .i64 k ∧ wr.ownsRow w.heap.size 23 4 v k (flat (l.take k)) ∧ Below w.heap.size w wr) (fun _ i _ => n - (intOf i).toNat)
  case atStart => exact ⟨0, Nat.zero_le _, rfl, World.ownsRow_nil _ _ _ _, Below.refl _ _⟩
  case round =>
    obtain ⟨k, hk, rfl, hown, hbel⟩ := hrel
    obtain ⟨A', c', rfl⟩ := own_form hown
    by_cases hlt : k < n
    · obtain ⟨b, o, rfl, hbB, x0, x1, x2, x3⟩ := (Hr.out.below hbel (Nat.le_refl _)).ins hlt
      have Ht := Lib.hid (take_ins (l := l) (k := k) (by have := Hl.out; omega))
      generalize l.getD k default = i at *
      obtain ⟨op, a, b', c''⟩ := i
      simp only at x0 x1 x2 x3
      have hsz := hbel.size
      have Hown := Lib.hid (hown.alloc (.cells #[.int .i64 op, .int .i64 a, .int .i64 b', .int .i64 c''] 24))
      have Hbel := Lib.hid (hbel.alloc hsz (.cells #[.int .i64 op, .int .i64 a, .int .i64 b', .int .i64 c''] 24))
      clear hown hbel
      have hi0 : (0 : Int) ≤ (k : Int) := by omega
      have hi1 : (k : Int) < (n : Int) := by omega
      go_wp2_with (at_builtin; go_must (refine wpList_append_lit (wr.alloc (.cells #[.int .i64 op, .int .i64 a, .int .i64 b', .int .i64 c''] 24)) (by rfl) _ _ 36 (by rfl) w.heap.size 23 i0 (.agg #[.int .i64 0, .int .i64 0, .int .i64 0, .int .i64 0]) 4 32 Tryd.underlying36 HI.out rfl (by decide) _ _ _ (by rfl) Hown.out 1 1 #[.int .i64 op, .int .i64 a, .int .i64 b', .int .i64 c''] 23 (by simp [Act.eval]) rfl (by simp [Value.oneCell']) (by omega) (by omega) (by simp; omega) ?_); intro v4 w4 hown4 hbel4)
      have Hown4 := Lib.hid hown4; have Hbel4 := Lib.hid (Hbel.out.trans hbel4); clear hown4 hbel4
      go_wp2
      go_roundw
      case rel => exact ⟨k + 1, by omega, by go_num, by rw [Ht.out, flat_append]; exact Hown4.out, Hbel4.out⟩
      case measure => simp [intOf]; omega
    · have hkn : k = n := by omega
      have Hown := Lib.hid hown; have Hbel := Lib.hid hbel; have Hk := Lib.hid hkn
      clear hown hbel hkn
      go_wp2
      go_ret
      have e : l.take k = l := List.take_of_length_le (by have := Hl.out; have := Hk.out; omega)
      refine ⟨A', _, c', rfl, ?_, ?_, Hbel.out⟩
      · have := Rd.of_own Hown.out; rwa [e] at this
      · have := Hl.out; have := Hk.out; omega
end Go.Proofs.YtecolkpnllikaaaDoor
