/- The walks of layer 14: what an instruction writes, the reference's answer, and the reference's names. Condition: the table of operations reads as laid. -/
import Derived.Test.YtecolkpnllikaaaDoorCodeC
import Derived.Lib.Strings
namespace Go.Proofs.YtecolkpnllikaaaDoor
open Go.RowKit

/-- What is written: the place, or -1. -/
def writesI (op a : Int) : Int := if 1 ≤ op ∧ op ≤ 18 ∧ op ≠ 16 then a else -1
/-- Does the text begin with the letter w? -/
def wHead (s : ByteArray) : Bool := s.data.toList.head? == some 119
theorem hpi_any (s : ByteArray) (w : World) (hs : s.size ≤ 281474976710656) :
    Calls Tryd.prog 62 #[.string s, .string ⟨#[119]⟩] w fun e w' => e = .returned (.bool (wHead s)) ∧ w = w' := by
  by_cases h0 : s.size = 0
  · have hz : s = ⟨#[]⟩ := by
      obtain ⟨d⟩ := s
      have : d.size = 0 := h0
      rw [Array.eq_empty_of_size_eq_zero this]
    subst hz
    go_enter Tryd.func62, Tryd.ntmps62
    go_wp2
    go_ret
    exact ⟨rfl, rfl⟩
  · have h1 : 1 ≤ s.size := by omega
    have hw : wHead s = ((s.extract 0 1).toList == [119]) := by
      rw [Lib.toList_data]
      clear hs h0
      obtain ⟨⟨l⟩⟩ := s
      match l, h1 with
      | x :: t, _ => simp [wHead, ByteArray.extract, ByteArray.copySlice]
    have Hw := Lib.hid hw; clear hw h0
    go_enter Tryd.func62, Tryd.ntmps62
    go_wp2
    go_ret
    exact ⟨ret_bool Hw.out.symm, rfl⟩
theorem hp_any (s : ByteArray) (w : World) (hs : s.size ≤ 281474976710656) :
    Calls Tryd.prog 37 #[.string s, .string ⟨#[119]⟩] w fun e w' => e = .returned (.bool (wHead s)) ∧ w = w' := by
  go_enter Tryd.func37, Tryd.ntmps37
  go_wp2_with (go_at_call 62; refine (hpi_any s _ hs).mono ?_; rintro e w1 ⟨rfl, rfl⟩)
  go_ret
  exact ⟨rfl, rfl⟩
theorem hasOf_size (op : Int) : (hasOf op).size ≤ 3 := by
  by_cases h : 0 ≤ op ∧ op < 22
  · obtain ⟨h0, h1⟩ := h
    obtain ⟨k, rfl⟩ := Int.eq_ofNat_of_zero_le h0
    have hk : k < 22 := by omega
    rw [hasOf, hasB, isB_yes h0 h1]
    have : ∀ k, k < 22 → (hasL.getD k []).length ≤ 3 := by decide
    exact this k hk
  · rw [hasOf_no (isB_no (by omega))]; decide
theorem wHead_has (op : Int) : wHead (hasOf op) = decide (1 ≤ op ∧ op ≤ 18) := by
  by_cases h : 0 ≤ op ∧ op < 22
  · obtain ⟨h0, h1⟩ := h
    obtain ⟨k, rfl⟩ := Int.eq_ofNat_of_zero_le h0
    have hk : k < 22 := by omega
    rw [hasOf, hasB, isB_yes h0 h1]
    have : ∀ k, k < 22 → wHead ⟨(hasL.getD k []).toArray⟩ = decide (1 ≤ (k : Int) ∧ (k : Int) ≤ 18) := by decide
    exact this k hk
  · rw [hasOf_no (isB_no (by omega))]; symm; simp [wHead]; omega
theorem writes_any (op a b c : Int) (w : World) (hT : OpTab w) :
    Calls Tryd.prog 14 #[.agg #[.int .i64 op, .int .i64 a, .int .i64 b, .int .i64 c]] w fun e w' => e = .returned (.int .i64 (writesI op a)) ∧ Below w.heap.size w w' := by
  have hT1 := hT.alloc (.cells #[.int .i64 op, .int .i64 a, .int .i64 b, .int .i64 c] 24)
  have hsz : (hasOf op).size ≤ 281474976710656 := by have := hasOf_size op; omega
  by_cases hw : wHead (hasOf op) = true
  · by_cases he : op = 16
    · subst he
      have hn : writesI 16 a = -1 := by simp [writesI]
      have Hn := Lib.hid hn; have Hw := Lib.hid hw; have HT := Lib.hid hT1; have Hs := Lib.hid hsz; clear hn hw hT hT1 hsz
      go_enter Tryd.func14, Tryd.ntmps14
      go_wp2_with (first
        | (go_at_call 34; refine (has_any _ _ _ _ _ HT.out).mono ?_; rintro e w1 ⟨rfl, hb1⟩; obtain ⟨hc1, hf1⟩ := bcell hb1; simp only [World.size_alloc] at hc1 hf1)
        | (go_at_call 37; refine (hp_any _ _ Hs.out).mono ?_; rintro e w2 ⟨rfl, rfl⟩; rw [Hw.out]))
      go_ret
      exact ⟨ret_int Hn.out.symm, ((Below.refl _ _).alloc (Nat.le_refl _) _).trans (hb1.mono (by simp))⟩
    · have hn : writesI op a = a := by rw [wHead_has] at hw; simp at hw; simp [writesI, hw, he]
      have be : (op != 16) = true := by simpa using he
      have Hn := Lib.hid hn; have Hw := Lib.hid hw; have HT := Lib.hid hT1; have Hs := Lib.hid hsz; clear hn hw hT hT1 hsz he
      go_enter Tryd.func14, Tryd.ntmps14
      go_wp2_with (first
        | (go_at_call 34; refine (has_any _ _ _ _ _ HT.out).mono ?_; rintro e w1 ⟨rfl, hb1⟩; obtain ⟨hc1, hf1⟩ := bcell hb1; simp only [World.size_alloc] at hc1 hf1)
        | (go_at_call 37; refine (hp_any _ _ Hs.out).mono ?_; rintro e w2 ⟨rfl, rfl⟩; rw [Hw.out]))
      go_ret
      exact ⟨ret_int Hn.out.symm, ((Below.refl _ _).alloc (Nat.le_refl _) _).trans (hb1.mono (by simp))⟩
  · have hw' : wHead (hasOf op) = false := by simpa using hw
    have hn : writesI op a = -1 := by rw [wHead_has] at hw'; simp at hw'; simp [writesI]; omega
    have Hn := Lib.hid hn; have Hw := Lib.hid hw'; have HT := Lib.hid hT1; have Hs := Lib.hid hsz; clear hn hw hw' hT hT1 hsz
    go_enter Tryd.func14, Tryd.ntmps14
    go_wp2_with (first
      | (go_at_call 34; refine (has_any _ _ _ _ _ HT.out).mono ?_; rintro e w1 ⟨rfl, hb1⟩; obtain ⟨hc1, hf1⟩ := bcell hb1; simp only [World.size_alloc] at hc1 hf1)
      | (go_at_call 37; refine (hp_any _ _ Hs.out).mono ?_; rintro e w2 ⟨rfl, rfl⟩; rw [Hw.out]))
    go_ret
    exact ⟨ret_int Hn.out.symm, ((Below.refl _ _).alloc (Nat.le_refl _) _).trans (hb1.mono (by simp))⟩
theorem writesr_any (op a b c : Int) (w : World) :
    Calls Tryd.prog 15 #[.agg #[.int .i64 op, .int .i64 a, .int .i64 b, .int .i64 c]] w fun e w' => e = .returned (.int .i64 (writesI op a)) ∧ Below w.heap.size w w' := by
  by_cases h : 1 ≤ op ∧ op ≤ 18 ∧ op ≠ 16
  · have hn : writesI op a = a := by simp [writesI, h]
    obtain ⟨h0, h1, h2⟩ := h
    have b0 : decide (op < 1) = false := decide_eq_false (by omega)
    have b1 : decide (18 < op) = false := decide_eq_false (by omega)
    have b2 : (op == 16) = false := by simpa using h2
    have Hn := Lib.hid hn; clear hn h0 h1 h2
    go_enter Tryd.func15, Tryd.ntmps15
    go_wp2
    go_ret
    exact ⟨ret_int Hn.out.symm, (Below.refl _ _).alloc (Nat.le_refl _) _⟩
  · have hn : writesI op a = -1 := by simp [writesI, h]
    have Hn := Lib.hid hn; clear hn
    have Hh := Lib.hid h; clear h
    by_cases h0 : op < 1
    · go_enter Tryd.func15, Tryd.ntmps15
      go_wp2
      go_ret
      exact ⟨ret_int Hn.out.symm, (Below.refl _ _).alloc (Nat.le_refl _) _⟩
    · have b0 : decide (op < 1) = false := decide_eq_false (by omega)
      by_cases h1 : op = 16
      · subst h1
        go_enter Tryd.func15, Tryd.ntmps15
        go_wp2
        go_ret
        exact ⟨ret_int Hn.out.symm, (Below.refl _ _).alloc (Nat.le_refl _) _⟩
      · have b1 : decide (18 < op) = true := decide_eq_true (by have := Hh.out; omega)
        have b2 : (op == 16) = false := by simpa using h1
        clear h0 h1
        go_enter Tryd.func15, Tryd.ntmps15
        go_wp2
        go_ret
        exact ⟨ret_int Hn.out.symm, (Below.refl _ _).alloc (Nat.le_refl _) _⟩

theorem names_at {k : Nat} {u : Value} (h : (nameL.map fun l => Value.string ⟨l.toArray⟩)[k]? = some u) : u = .string ⟨(nameL.getD k []).toArray⟩ := by
  simp only [List.getElem?_map, Option.map_eq_some_iff] at h
  obtain ⟨l, hl, rfl⟩ := h
  simp [List.getD_eq_getElem?_getD, hl]
theorem wordr_any (op : Int) (w : World) :
    Calls Tryd.prog 19 #[.int .i64 op] w fun e w' => e = .returned (.string (nameOf op)) ∧ Below w.heap.size w w' := by
  by_cases h : 0 ≤ op ∧ op < 22
  · obtain ⟨h0, h1⟩ := h
    obtain ⟨k, rfl⟩ := Int.eq_ofNat_of_zero_le h0
    have b0 : decide ((k : Int) < 0) = false := decide_eq_false (by omega)
    have b1 : decide (21 < (k : Int)) = false := decide_eq_false (by omega)
    have hk : k < 22 := by omega
    have hn : nameOf (k : Int) = ⟨(nameL.getD k []).toArray⟩ := by simp [nameOf, nameB, isB_yes h0 h1]
    have Hn := Lib.hid hn; clear hn h0
    go_enter Tryd.func19, Tryd.ntmps19
    go_wp2_with (go_at_call 39; refine (names_any _).mono ?_; rintro e w1 ⟨A, c, rfl, hr, hb⟩; obtain ⟨bk, o, u, rfl, hlt, hu, hcell⟩ := hr.at_ hk (show 0 < 1 by omega); simp only [Nat.mul_one, Nat.add_zero] at hu hcell; obtain rfl := names_at hu)
    go_ret
    exact ⟨ret_str Hn.out.symm, hb⟩
  · have hn : nameOf op = ⟨#[]⟩ := nameOf_no (isB_no (by omega))
    have Hn := Lib.hid hn; clear hn
    by_cases hl : op < 0
    · clear h
      go_enter Tryd.func19, Tryd.ntmps19
      go_wp2
      go_ret
      exact ⟨ret_str Hn.out.symm, Below.refl _ _⟩
    · have b0 : decide (op < 0) = false := decide_eq_false (by omega)
      have b1 : decide (21 < op) = true := decide_eq_true (by omega)
      clear h hl
      go_enter Tryd.func19, Tryd.ntmps19
      go_wp2
      go_ret
      exact ⟨ret_str Hn.out.symm, Below.refl _ _⟩
end Go.Proofs.YtecolkpnllikaaaDoor
