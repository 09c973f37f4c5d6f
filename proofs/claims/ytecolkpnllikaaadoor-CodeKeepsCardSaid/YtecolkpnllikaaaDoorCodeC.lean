/- The walks of layer 14: where an instruction goes on, what it writes; the reference's; the reference's names. Condition: the table of operations reads as laid. -/
import Derived.Test.YtecolkpnllikaaaDoorCodeB
namespace Go.Proofs.YtecolkpnllikaaaDoor
open Go.RowKit

def nextL (op a at_ : Int) : List Int :=
  if isB op = false ∨ op = 0 then [] else if op = 19 then [a] else if (op = 20 ∨ op = 21) ∧ a ≠ wrap64 (at_ + 1) then [wrap64 (at_ + 1), a] else [wrap64 (at_ + 1)]
/-- A list of numbers handed back as a slice. -/
def GivesInts (w : World) (l : List Int) (e : Ending) (w' : World) : Prop := ∃ A n c, e = .returned (.slice A n c) ∧ Rd w' w'.heap.size 1 A n (ints l) ∧ n = l.length ∧ Below w.heap.size w w'
theorem gives_none {w w' : World} (hb : Below w.heap.size w w') {c : Nat} {l : List Int} (h : l = []) : GivesInts w l (.returned (.slice none 0 c)) w' := by
  subst h; exact ⟨_, _, _, rfl, Rd.empty, rfl, hb⟩
theorem gives_new {w w1 : World} {g : Nat} (hb : Below w.heap.size w w1) (hg : w1.heap.size = g) {n c : Nat} {l : List Int} {cs : Array Value} {t : TypeId} (h : cs.toList = ints l) (hn : l.length = n) : GivesInts w l (.returned (.slice (some ⟨g, 0, none⟩) n c)) (w1.alloc (.cells cs t)) := by
  subst hg
  exact ⟨_, _, _, rfl, Rd.newA (n := n) (sz := 1) w1 t cs h (by simp [ints, hn]), hn.symm, hb.alloc hb.size _⟩

set_option maxHeartbeats 400000 in
theorem next_any (op a b c at_ : Int) (w : World) :
    Calls Tryd.prog 16 #[.agg #[.int .i64 op, .int .i64 a, .int .i64 b, .int .i64 c], .int .i64 at_] w (GivesInts w (nextL op a at_)) := by
  by_cases h : 0 ≤ op ∧ op < 22
  · obtain ⟨h0, h1⟩ := h
    have hb : isB op = true := isB_yes h0 h1
    by_cases e0 : op = 0
    · have hn : nextL op a at_ = [] := by simp [nextL, e0]
      have Hn := Lib.hid hn; clear hn hb
      subst e0
      go_enter Tryd.func16, Tryd.ntmps16
      go_wp2_with (go_at_call 38; refine (is_yes _ _ h0 h1).mono ?_; rintro e w' ⟨rfl, rfl⟩)
      go_ret
      exact gives_none ((Below.refl _ _).alloc (Nat.le_refl _) _) Hn.out
    by_cases e1 : op = 19
    · have hn : nextL op a at_ = [a] := by subst e1; simp [nextL, hb]
      have Hn := Lib.hid hn; clear hn hb e0
      subst e1
      go_enter Tryd.func16, Tryd.ntmps16
      go_wp2_with (go_at_call 38; refine (is_yes _ _ h0 h1).mono ?_; rintro e w' ⟨rfl, rfl⟩)
      go_ret
      (refine gives_new ?_ ?_ ?_ ?_; exact (Below.refl _ _).alloc (Nat.le_refl _) _; simp; rw [Hn.out]; rfl; rw [Hn.out]; rfl)
    have b0 : (op == 0) = false := by simpa using e0
    have b1 : (op == 19) = false := by simpa using e1
    by_cases e2 : op = 20 ∨ op = 21
    · by_cases e3 : a = wrap64 (at_ + 1)
      · have hn : nextL op a at_ = [wrap64 (at_ + 1)] := by simp [nextL, hb, e0, e1, e3]
        have b3 : (a != wrap64 (at_ + 1)) = false := by simpa using e3
        have Hn := Lib.hid hn; clear hn hb e3
        rcases e2 with rfl | rfl
        all_goals
          go_enter Tryd.func16, Tryd.ntmps16
          go_wp2_with (go_at_call 38; refine (is_yes _ _ h0 h1).mono ?_; rintro e w' ⟨rfl, rfl⟩)
          go_ret
          (refine gives_new ?_ ?_ ?_ ?_; exact (Below.refl _ _).alloc (Nat.le_refl _) _; simp; rw [Hn.out]; rfl; rw [Hn.out]; rfl)
      · have hn : nextL op a at_ = [wrap64 (at_ + 1), a] := by simp [nextL, hb, e0, e1, e2, e3]
        have b3 : (a != wrap64 (at_ + 1)) = true := by simpa using e3
        have Hn := Lib.hid hn; clear hn hb e3
        rcases e2 with rfl | rfl
        all_goals
          go_enter Tryd.func16, Tryd.ntmps16
          go_wp2_with (go_at_call 38; refine (is_yes _ _ h0 h1).mono ?_; rintro e w' ⟨rfl, rfl⟩)
          go_ret
          (refine gives_new ?_ ?_ ?_ ?_; exact (Below.refl _ _).alloc (Nat.le_refl _) _; simp; rw [Hn.out]; rfl; rw [Hn.out]; rfl)
    · have hn : nextL op a at_ = [wrap64 (at_ + 1)] := by simp [nextL, hb, e0, e1, e2]
      have b2 : (op == 20) = false := by simp; omega
      have b3 : (op == 21) = false := by simp; omega
      have Hn := Lib.hid hn; clear hn hb e0 e1 e2
      go_enter Tryd.func16, Tryd.ntmps16
      go_wp2_with (go_at_call 38; refine (is_yes _ _ h0 h1).mono ?_; rintro e w' ⟨rfl, rfl⟩)
      go_ret
      (refine gives_new ?_ ?_ ?_ ?_; exact (Below.refl _ _).alloc (Nat.le_refl _) _; simp; rw [Hn.out]; rfl; rw [Hn.out]; rfl)
  · have hn : nextL op a at_ = [] := by simp [nextL, isB_no (by omega : op < 0 ∨ 22 ≤ op)]
    have Hn := Lib.hid hn; clear hn
    have h' : op < 0 ∨ 22 ≤ op := by omega
    have Hh := Lib.hid h'; clear h h'
    go_enter Tryd.func16, Tryd.ntmps16
    go_wp2_with (go_at_call 38; refine (is_no _ _ Hh.out).mono ?_; rintro e w' ⟨rfl, rfl⟩)
    go_ret
    exact gives_none ((Below.refl _ _).alloc (Nat.le_refl _) _) Hn.out

set_option maxHeartbeats 400000 in
theorem nextr_any (op a b c at_ : Int) (w : World) :
    Calls Tryd.prog 17 #[.agg #[.int .i64 op, .int .i64 a, .int .i64 b, .int .i64 c], .int .i64 at_] w (GivesInts w (nextL op a at_)) := by
  by_cases h : 1 ≤ op ∧ op < 22
  · obtain ⟨h0, h1⟩ := h
    have hb : isB op = true := isB_yes (by omega) h1
    by_cases e1 : op = 19
    · have hn : nextL op a at_ = [a] := by subst e1; simp [nextL, hb]
      have Hn := Lib.hid hn; clear hn hb
      subst e1
      go_enter Tryd.func17, Tryd.ntmps17
      go_wp2
      go_ret
      (refine gives_new ?_ ?_ ?_ ?_; exact (Below.refl _ _).alloc (Nat.le_refl _) _; simp; rw [Hn.out]; rfl; rw [Hn.out]; rfl)
    have b1 : (op == 19) = false := by simpa using e1
    by_cases e2 : op = 20 ∨ op = 21
    · have b4 : decide (19 < op) = true := by simp; omega
      by_cases e3 : a = wrap64 (at_ + 1)
      · have hn : nextL op a at_ = [wrap64 (at_ + 1)] := by simp [nextL, hb, e1, e3]; omega
        have b3 : (a != wrap64 (at_ + 1)) = false := by simpa using e3
        have Hn := Lib.hid hn; clear hn hb e3 e1 e2
        go_enter Tryd.func17, Tryd.ntmps17
        go_wp2
        go_ret
        (refine gives_new ?_ ?_ ?_ ?_; exact (Below.refl _ _).alloc (Nat.le_refl _) _; simp; rw [Hn.out]; rfl; rw [Hn.out]; rfl)
      · have hn : nextL op a at_ = [wrap64 (at_ + 1), a] := by simp [nextL, hb, e1, e2, e3]; omega
        have b3 : (a != wrap64 (at_ + 1)) = true := by simpa using e3
        have Hn := Lib.hid hn; clear hn hb e3 e1 e2
        go_enter Tryd.func17, Tryd.ntmps17
        go_wp2
        go_ret
        (refine gives_new ?_ ?_ ?_ ?_; exact (Below.refl _ _).alloc (Nat.le_refl _) _; simp; rw [Hn.out]; rfl; rw [Hn.out]; rfl)
    · have hn : nextL op a at_ = [wrap64 (at_ + 1)] := by simp [nextL, hb, e1, e2]; omega
      have b4 : decide (19 < op) = false := by simp; omega
      have Hn := Lib.hid hn; clear hn hb e1 e2
      go_enter Tryd.func17, Tryd.ntmps17
      go_wp2
      go_ret
      (refine gives_new ?_ ?_ ?_ ?_; exact (Below.refl _ _).alloc (Nat.le_refl _) _; simp; rw [Hn.out]; rfl; rw [Hn.out]; rfl)
  · have hn : nextL op a at_ = [] := by
      by_cases e0 : op = 0
      · simp [nextL, e0]
      · simp [nextL, isB_no (by omega : op < 0 ∨ 22 ≤ op)]
    have Hn := Lib.hid hn; clear hn
    by_cases hl : op < 1
    · clear h
      go_enter Tryd.func17, Tryd.ntmps17
      go_wp2
      go_ret
      exact gives_none ((Below.refl _ _).alloc (Nat.le_refl _) _) Hn.out
    · have b0 : decide (op < 1) = false := by simp; omega
      have b1 : decide (21 < op) = true := by simp; omega
      clear h hl
      go_enter Tryd.func17, Tryd.ntmps17
      go_wp2
      go_ret
      exact gives_none ((Below.refl _ _).alloc (Nat.le_refl _) _) Hn.out

end Go.Proofs.YtecolkpnllikaaaDoor
