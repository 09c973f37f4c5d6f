/- The walks of the small functions of layer 14 (code) and of its reference: what an instruction has, its three numbers, its name. Condition: the table of operations reads as laid. -/
import Derived.Test.YtecolkpnllikaaaDoorProg
import Derived.Test.YtecolkpnllikaaaDoorWords
import Derived.WalkLawsBesides
import Derived.Deep.QuietTactic
import Derived.BigQuiet
import Derived.Deep.RegionHeld3
namespace Go.Proofs.YtecolkpnllikaaaDoor
open Go.RowKit

/-- The operations' names, and what each has. -/
def nameL : List (List UInt8) := [[104, 97, 108, 116], [115, 101, 116], [109, 111, 118, 101], [97, 100, 100], [115, 117, 98], [109, 117, 108], [100, 105, 118], [114, 101, 109], [101, 113], [110, 101], [108, 116], [108, 101], [97, 110, 100], [111, 114], [110, 111, 116], [108, 111, 97, 100], [115, 116, 111, 114, 101], [99, 117, 116], [119, 105, 116, 104, 105, 110], [106, 117, 109, 112], [106, 122], [106, 110, 122]]
def hasL : List (List UInt8) := [[110], [119, 110], [119, 119], [119, 119, 119], [119, 119, 119], [119, 119, 119], [119, 119, 119], [119, 119, 119], [119, 119, 119], [119, 119, 119], [119, 119, 119], [119, 119, 119], [119, 119, 119], [119, 119, 119], [119, 119], [119, 119, 119], [119, 119, 119], [119, 110, 110], [119, 119, 110], [112], [112, 119], [112, 119]]
def isB (op : Int) : Bool := decide (0 ≤ op) && decide (op < 22)
def nameB (op : Int) : List UInt8 := if isB op then nameL.getD op.toNat [] else []
def hasB (op : Int) : List UInt8 := if isB op then hasL.getD op.toNat [] else []
def nameOf (op : Int) : ByteArray := ⟨(nameB op).toArray⟩
def hasOf (op : Int) : ByteArray := ⟨(hasB op).toArray⟩
theorem isB_yes {op : Int} (h0 : 0 ≤ op) (h1 : op < 22) : isB op = true := by simp [isB, h0, h1]
theorem isB_no {op : Int} (h : op < 0 ∨ 22 ≤ op) : isB op = false := by simp [isB]; omega
theorem isB_iff {op : Int} : isB op = true ↔ 0 ≤ op ∧ op < 22 := by simp [isB]
theorem hasOf_no {op : Int} (h : isB op = false) : hasOf op = ⟨#[]⟩ := by simp [hasOf, hasB, h]
theorem nameOf_no {op : Int} (h : isB op = false) : nameOf op = ⟨#[]⟩ := by simp [nameOf, nameB, h]

/-- The table of operations, as laid. -/
def OpTab (w : World) : Prop := 0 < w.heap.size ∧ ∀ op : Int, 0 ≤ op → op < 22 → w.cell? ⟨0, op.toNat * 2, none⟩ = some (.string (nameOf op)) ∧ w.cell? ⟨0, op.toNat * 2 + 1, none⟩ = some (.string (hasOf op))
theorem OpTab.below {B : Nat} {w w' : World} (h : OpTab w) (hb : Below B w w') (hB : 0 < B) : OpTab w' :=
  ⟨by have := hb.size; have := h.1; omega, fun op h0 h1 => ⟨(hb.cell (p := ⟨0, _, none⟩) hB).trans (h.2 op h0 h1).1, (hb.cell (p := ⟨0, _, none⟩) hB).trans (h.2 op h0 h1).2⟩⟩
theorem OpTab.alloc {w : World} (h : OpTab w) (o : Obj) : OpTab (w.alloc o) := h.below (B := w.heap.size) ((Below.refl _ _).alloc (Nat.le_refl _) o) h.1

theorem is_yes (op : Int) (w : World) (h0 : 0 ≤ op) (h1 : op < 22) :
    Calls Tryd.prog 38 #[.int .i64 op] w fun e w' => e = .returned (.bool true) ∧ w = w' := by
  go_enter Tryd.func38, Tryd.ntmps38
  go_wp2
  go_ret
  exact ⟨rfl, rfl⟩
theorem is_no (op : Int) (w : World) (h : op < 0 ∨ 22 ≤ op) :
    Calls Tryd.prog 38 #[.int .i64 op] w fun e w' => e = .returned (.bool false) ∧ w = w' := by
  rcases h with h | h
  · go_enter Tryd.func38, Tryd.ntmps38
    go_wp2
    go_ret
    exact ⟨rfl, rfl⟩
  · have h0 : 0 ≤ op := by omega
    have hd : decide (op < 22) = false := by simp; omega
    go_enter Tryd.func38, Tryd.ntmps38
    go_wp2
    go_ret
    exact ⟨rfl, rfl⟩
theorem is_any (op : Int) (w : World) :
    Calls Tryd.prog 38 #[.int .i64 op] w fun e w' => e = .returned (.bool (isB op)) ∧ w = w' := by
  by_cases h : 0 ≤ op ∧ op < 22
  · refine (is_yes op w h.1 h.2).mono fun e w' ⟨he, hw⟩ => ⟨by rw [isB_yes h.1 h.2]; exact he, hw⟩
  · refine (is_no op w (by omega)).mono fun e w' ⟨he, hw⟩ => ⟨by rw [isB_no (by omega)]; exact he, hw⟩

theorem three_any (op a b c : Int) (w : World) :
    Calls Tryd.prog 33 #[.agg #[.int .i64 op, .int .i64 a, .int .i64 b, .int .i64 c]] w fun e w' => e = .returned (.agg #[.int .i64 a, .int .i64 b, .int .i64 c]) ∧ Below w.heap.size w w' := by
  go_enter Tryd.func33, Tryd.ntmps33
  go_wp2
  refine bodyPost_ret (v := .agg #[.int .i64 a, .int .i64 b, .int .i64 c]) (by simp [results, Tryd.results33, go_sem]) rfl ⟨rfl, ?_⟩
  exact ((Below.refl _ _).alloc (Nat.le_refl _) _).alloc (by simp) _
theorem threer_any (op a b c : Int) (w : World) :
    Calls Tryd.prog 36 #[.agg #[.int .i64 op, .int .i64 a, .int .i64 b, .int .i64 c]] w fun e w' => e = .returned (.agg #[.int .i64 a, .int .i64 b, .int .i64 c]) ∧ Below w.heap.size w w' := by
  go_enter Tryd.func36, Tryd.ntmps36
  go_wp2
  refine bodyPost_ret (v := .agg #[.int .i64 a, .int .i64 b, .int .i64 c]) (by simp [results, Tryd.results36, go_sem]) rfl ⟨rfl, ?_⟩
  exact ((Below.refl _ _).alloc (Nat.le_refl _) _).alloc (by simp) _

theorem has_no (op a b c : Int) (w : World) (h : op < 0 ∨ 22 ≤ op) :
    Calls Tryd.prog 34 #[.agg #[.int .i64 op, .int .i64 a, .int .i64 b, .int .i64 c]] w fun e w' => e = .returned (.string ⟨#[]⟩) ∧ Below w.heap.size w w' := by
  go_enter Tryd.func34, Tryd.ntmps34
  go_wp2_with (go_at_call 38; refine (is_no _ _ h).mono ?_; rintro e w' ⟨rfl, rfl⟩)
  go_ret
  exact ⟨rfl, (Below.refl _ _).alloc (Nat.le_refl _) _⟩
theorem has_yes (op a b c : Int) (w : World) (hT : OpTab w) (h0 : 0 ≤ op) (h1 : op < 22) :
    Calls Tryd.prog 34 #[.agg #[.int .i64 op, .int .i64 a, .int .i64 b, .int .i64 c]] w fun e w' => e = .returned (.string (hasOf op)) ∧ Below w.heap.size w w' := by
  have hc := ((hT.alloc (.cells #[.int .i64 op, .int .i64 a, .int .i64 b, .int .i64 c] 24)).2 op h0 h1).2
  have hs := hT.1
  clear hT
  go_enter Tryd.func34, Tryd.ntmps34
  go_wp2_with (go_at_call 38; refine (is_yes _ _ h0 h1).mono ?_; rintro e w' ⟨rfl, rfl⟩)
  go_ret
  exact ⟨rfl, (Below.refl _ _).alloc (Nat.le_refl _) _⟩
theorem has_any (op a b c : Int) (w : World) (hT : OpTab w) :
    Calls Tryd.prog 34 #[.agg #[.int .i64 op, .int .i64 a, .int .i64 b, .int .i64 c]] w fun e w' => e = .returned (.string (hasOf op)) ∧ Below w.heap.size w w' := by
  by_cases h : 0 ≤ op ∧ op < 22
  · exact has_yes op a b c w hT h.1 h.2
  · refine (has_no op a b c w (by omega)).mono fun e w' ⟨he, hw⟩ => ⟨by rw [hasOf_no (isB_no (by omega))]; exact he, hw⟩

theorem word_yes (op : Int) (w : World) (hT : OpTab w) (h0 : 0 ≤ op) (h1 : op < 22) :
    Calls Tryd.prog 18 #[.int .i64 op] w fun e w' => e = .returned (.string (nameOf op)) ∧ w = w' := by
  have hc := (hT.2 op h0 h1).1
  clear hT
  go_enter Tryd.func18, Tryd.ntmps18
  go_wp2_with (go_at_call 38; refine (is_yes _ _ h0 h1).mono ?_; rintro e w' ⟨rfl, rfl⟩)
  go_ret
  exact ⟨rfl, rfl⟩
theorem word_no (op : Int) (w : World) (h : op < 0 ∨ 22 ≤ op) :
    Calls Tryd.prog 18 #[.int .i64 op] w fun e w' => e = .returned (.string ⟨#[]⟩) ∧ w = w' := by
  go_enter Tryd.func18, Tryd.ntmps18
  go_wp2_with (go_at_call 38; refine (is_no _ _ h).mono ?_; rintro e w' ⟨rfl, rfl⟩)
  go_ret
  exact ⟨rfl, rfl⟩
theorem word_any (op : Int) (w : World) (hT : OpTab w) :
    Calls Tryd.prog 18 #[.int .i64 op] w fun e w' => e = .returned (.string (nameOf op)) ∧ w = w' := by
  by_cases h : 0 ≤ op ∧ op < 22
  · exact word_yes op w hT h.1 h.2
  · refine (word_no op w (by omega)).mono fun e w' ⟨he, hw⟩ => ⟨by rw [nameOf_no (isB_no (by omega))]; exact he, hw⟩
end Go.Proofs.YtecolkpnllikaaaDoor
