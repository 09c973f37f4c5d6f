/- The walks of Check, the program's and the reference's: the first instruction that may not be. Condition: the table of operations reads as laid; a bound on how many. -/
import Derived.Test.YtecolkpnllikaaaDoorCodeI
import Derived.Test.YtecolkpnllikaaaDoorCodeJ
namespace Go.Proofs.YtecolkpnllikaaaDoor
open Go.RowKit Go.Lib

def Ins.right (i : Ins) (size words : Int) : Bool := rightB i.op i.a i.b i.c size words
def checkI (l : List Ins) (words : Int) : Int × Int :=
  if words < 1 ∨ 256 < words ∨ l.length < 1 ∨ 2048 < l.length then (-1, 2)
  else match l.findIdx? (fun i => !i.right l.length words) with
    | some k => ((k : Int), 3)
    | none => (-1, 0)
theorem check_range {l : List Ins} {words : Int} (h : words < 1 ∨ 256 < words ∨ l.length < 1 ∨ 2048 < l.length) : checkI l words = (-1, 2) := by unfold checkI; rw [if_pos h]
theorem check_bad {l : List Ins} {words : Int} (h : ¬ (words < 1 ∨ 256 < words ∨ l.length < 1 ∨ 2048 < l.length)) {k : Nat} (hk : k < l.length)
    (hok : ∀ j, j < k → (l.getD j default).right l.length words = true) (hb : (l.getD k default).right l.length words = false) : checkI l words = ((k : Int), 3) := by
  have : l.findIdx? (fun i => !i.right l.length words) = some k := by
    rw [List.findIdx?_eq_some_iff_getElem]
    refine ⟨hk, ?_, fun j hj => ?_⟩
    · rw [List.getD_eq_getElem?_getD, List.getElem?_eq_getElem hk] at hb
      simpa using hb
    · have := hok j hj
      rw [List.getD_eq_getElem?_getD, List.getElem?_eq_getElem (by omega)] at this
      simpa using this
  simp only [checkI, if_neg h, this]
theorem check_good {l : List Ins} {words : Int} (h : ¬ (words < 1 ∨ 256 < words ∨ l.length < 1 ∨ 2048 < l.length))
    (hok : ∀ j, j < l.length → (l.getD j default).right l.length words = true) : checkI l words = (-1, 0) := by
  have : l.findIdx? (fun i => !i.right l.length words) = none := by
    rw [List.findIdx?_eq_none_iff]
    intro x hx
    obtain ⟨j, hj, rfl⟩ := List.mem_iff_getElem.1 hx
    have := hok j hj
    rw [List.getD_eq_getElem?_getD, List.getElem?_eq_getElem hj] at this
    simpa using this
  simp only [checkI, if_neg h, this]
theorem ret_pair {a b c d : Int} (h1 : a = c) (h2 : b = d) : Ending.returned (.tuple #[.int .i64 a, .int .i64 b]) = .returned (.tuple #[.int .i64 c, .int .i64 d]) := by rw [h1, h2]

set_option maxRecDepth 100000 in
set_option maxHeartbeats 1000000 in
theorem check_any (A : Option Addr) (n c : Nat) (l : List Ins) (words : Int) (w : World) (hT : OpTab w) (hr : Rd w w.heap.size 4 A n (flat l)) (hn : n ≤ 1000000) :
    Calls Tryd.prog 20 #[.slice A n c, .int .i64 words] w fun e w' => e = Ending.returned (.tuple #[.int .i64 (checkI l words).1, .int .i64 (checkI l words).2]) ∧ Below w.heap.size w w' := by
  have hl : l.length = n := by have := hr.1; rw [flat_len] at this; omega
  have Hl := Lib.hid hl
  by_cases h1 : words < 1
  · have Hc := Lib.hid (check_range (l := l) (.inl h1)); clear hl hr
    go_enter Tryd.func20, Tryd.ntmps20
    go_wp2
    go_ret2
    exact ⟨ret_pair (by rw [Hc.out]) (by rw [Hc.out]), Below.refl _ _⟩
  by_cases h2 : 256 < words
  · have Hc := Lib.hid (check_range (l := l) (words := words) (.inr (.inl h2))); clear hl hr
    have b1 : decide (words < 1) = false := decide_eq_false h1
    clear h1
    go_enter Tryd.func20, Tryd.ntmps20
    go_wp2
    go_ret2
    exact ⟨ret_pair (by rw [Hc.out]) (by rw [Hc.out]), Below.refl _ _⟩
  have b1 : decide (words < 1) = false := decide_eq_false h1
  have b2 : decide (256 < words) = false := decide_eq_false h2
  by_cases h3 : n < 1
  · have Hc := Lib.hid (check_range (l := l) (words := words) (.inr (.inr (.inl (by omega))))); clear hl hr
    obtain rfl : n = 0 := by omega
    clear h1 h2 h3
    go_enter Tryd.func20, Tryd.ntmps20
    go_wp2
    go_ret2
    exact ⟨ret_pair (by rw [Hc.out]) (by rw [Hc.out]), Below.refl _ _⟩
  by_cases h4 : 2048 < n
  · have Hc := Lib.hid (check_range (l := l) (words := words) (.inr (.inr (.inr (by omega))))); clear hl hr
    have b3 : decide ((n : Int) < 1) = false := decide_eq_false (by omega)
    have b4 : decide ((2048 : Int) < (n : Int)) = true := decide_eq_true (by omega)
    clear h1 h2 h3 h4
    go_enter Tryd.func20, Tryd.ntmps20
    go_wp2
    go_ret2
    exact ⟨ret_pair (by rw [Hc.out]) (by rw [Hc.out]), Below.refl _ _⟩
  have b3 : decide ((n : Int) < 1) = false := decide_eq_false (by omega)
  have b4 : decide ((2048 : Int) < (n : Int)) = false := decide_eq_false (by omega)
  have hno : ¬ (words < 1 ∨ 256 < words ∨ l.length < 1 ∨ 2048 < l.length) := by omega
  have Hno := Lib.hid hno; have Hr := Lib.hid hr
  clear h1 h2 h3 h4 hl hr hno
  have HT := Lib.hid hT; clear hT
  go_enter Tryd.func20, Tryd.ntmps20
  go_wp2
  go_loopw [26] (fun i wr => ∃ k : Nat, k ≤ n ∧ i = .int .i64 k ∧ (∀ j, j < k → (l.getD j default).right l.length words = true) ∧ Below w.heap.size w wr) (fun i _ => n - (intOf i).toNat)
  case atStart => exact ⟨0, Nat.zero_le _, rfl, fun j hj => absurd hj (by omega), Below.refl _ _⟩
  case round =>
    obtain ⟨k, hk, rfl, hok, hbel⟩ := hrel
    have Hok := Lib.hid hok; clear hok
    by_cases hlt : k < n
    · obtain ⟨b, o, rfl, hbB, x0, x1, x2, x3⟩ := (Hr.out.below hbel (Nat.le_refl _)).ins hlt
      have hi : Hid ((l.getD k default).right l.length words = rightB (l.getD k default).op (l.getD k default).a (l.getD k default).b (l.getD k default).c n words) := by
        show _ = _
        rw [Ins.right, Hl.out]
      generalize hid_i : l.getD k default = i at *
      have Hi := Lib.hid hid_i; clear hid_i
      obtain ⟨op, a, b', c''⟩ := i
      simp only at x0 x1 x2 x3 hi
      have hsz := hbel.size
      have Hbel := Lib.hid hbel; clear hbel
      have hi0 : (0 : Int) ≤ (k : Int) := by omega
      have hi1 : (k : Int) < (n : Int) := by omega
      by_cases hgood : rightB op a b' c'' n words = true
      · have Hg := Lib.hid hgood; clear hgood
        go_wp2_with (go_at_call 23; go_must (refine (right_any _ _ _ _ _ _ _ ((HT.out.below Hbel.out HT.out.1).alloc _)).mono ?_); rintro e w4 ⟨rfl, hb⟩; rw [Hg.out]; have Hb := Lib.hid (Hbel.out.trans (((Below.refl _ _).alloc hsz (.cells #[.int .i64 op, .int .i64 a, .int .i64 b', .int .i64 c''] 24)).trans (hb.mono (by simp; omega)))); clear hb)
        go_roundw
        case rel =>
          refine ⟨k + 1, by omega, by go_num, fun j hj => ?_, Hb.out⟩
          rcases Nat.lt_or_ge j k with hjk | hjk
          · exact Hok.out j hjk
          · obtain rfl : j = k := by omega
            rw [Hi.out, hi.out]; exact Hg.out
        case measure => simp [intOf]; omega
      · have hgood' : rightB op a b' c'' n words = false := by simpa using hgood
        have Hg := Lib.hid hgood'; clear hgood hgood'
        go_wp2_with (go_at_call 23; go_must (refine (right_any _ _ _ _ _ _ _ ((HT.out.below Hbel.out HT.out.1).alloc _)).mono ?_); rintro e w4 ⟨rfl, hb⟩; rw [Hg.out]; have Hb := Lib.hid (Hbel.out.trans (((Below.refl _ _).alloc hsz (.cells #[.int .i64 op, .int .i64 a, .int .i64 b', .int .i64 c''] 24)).trans (hb.mono (by simp; omega)))); clear hb)
        go_ret2
        have Hc := check_bad Hno.out (by have := Hl.out; omega : k < l.length) Hok.out (by rw [Hi.out, hi.out]; exact Hg.out)
        exact ⟨ret_pair (by rw [Hc]) (by rw [Hc]), Hb.out⟩
    · have hkn : k = n := by omega
      have Hk := Lib.hid hkn; have Hbel := Lib.hid hbel; clear hkn hbel
      go_wp2
      go_ret2
      have Hc := check_good Hno.out (fun j hj => Hok.out j (by have := Hl.out; have := Hk.out; omega))
      exact ⟨ret_pair (by rw [Hc]) (by rw [Hc]), Hbel.out⟩
set_option maxRecDepth 100000 in
set_option maxHeartbeats 1000000 in
theorem checkr_any (A : Option Addr) (n c : Nat) (l : List Ins) (words : Int) (w : World)  (hr : Rd w w.heap.size 4 A n (flat l)) (hn : n ≤ 1000000) :
    Calls Tryd.prog 22 #[.slice A n c, .int .i64 words] w fun e w' => e = Ending.returned (.tuple #[.int .i64 (checkI l words).1, .int .i64 (checkI l words).2]) ∧ Below w.heap.size w w' := by
  have hl : l.length = n := by have := hr.1; rw [flat_len] at this; omega
  have Hl := Lib.hid hl
  by_cases h1 : words < 1
  · have Hc := Lib.hid (check_range (l := l) (.inl h1)); clear hl hr
    go_enter Tryd.func22, Tryd.ntmps22
    go_wp2
    go_ret2
    exact ⟨ret_pair (by rw [Hc.out]) (by rw [Hc.out]), Below.refl _ _⟩
  by_cases h2 : 256 < words
  · have Hc := Lib.hid (check_range (l := l) (words := words) (.inr (.inl h2))); clear hl hr
    have b1 : decide (words < 1) = false := decide_eq_false h1
    clear h1
    go_enter Tryd.func22, Tryd.ntmps22
    go_wp2
    go_ret2
    exact ⟨ret_pair (by rw [Hc.out]) (by rw [Hc.out]), Below.refl _ _⟩
  have b1 : decide (words < 1) = false := decide_eq_false h1
  have b2 : decide (256 < words) = false := decide_eq_false h2
  by_cases h3 : n < 1
  · have Hc := Lib.hid (check_range (l := l) (words := words) (.inr (.inr (.inl (by omega))))); clear hl hr
    obtain rfl : n = 0 := by omega
    clear h1 h2 h3
    go_enter Tryd.func22, Tryd.ntmps22
    go_wp2
    go_ret2
    exact ⟨ret_pair (by rw [Hc.out]) (by rw [Hc.out]), Below.refl _ _⟩
  by_cases h4 : 2048 < n
  · have Hc := Lib.hid (check_range (l := l) (words := words) (.inr (.inr (.inr (by omega))))); clear hl hr
    have b3 : ((n : Int) == 0) = false := by simp; omega
    have b4 : decide ((2048 : Int) < (n : Int)) = true := decide_eq_true (by omega)
    clear h1 h2 h3 h4
    go_enter Tryd.func22, Tryd.ntmps22
    go_wp2
    go_ret2
    exact ⟨ret_pair (by rw [Hc.out]) (by rw [Hc.out]), Below.refl _ _⟩
  have b3 : ((n : Int) == 0) = false := by simp; omega
  have b4 : decide ((2048 : Int) < (n : Int)) = false := decide_eq_false (by omega)
  have hno : ¬ (words < 1 ∨ 256 < words ∨ l.length < 1 ∨ 2048 < l.length) := by omega
  have Hno := Lib.hid hno; have Hr := Lib.hid hr
  clear h1 h2 h3 h4 hl hr hno
  skip
  go_enter Tryd.func22, Tryd.ntmps22
  go_wp2
  go_loopw [6] (fun i wr => ∃ k : Nat, k ≤ n ∧ i = .int .i64 k ∧ (∀ j, j < k → (l.getD j default).right l.length words = true) ∧ Below w.heap.size w wr) (fun i _ => n - (intOf i).toNat)
  case atStart => exact ⟨0, Nat.zero_le _, rfl, fun j hj => absurd hj (by omega), Below.refl _ _⟩
  case round =>
    obtain ⟨k, hk, rfl, hok, hbel⟩ := hrel
    have Hok := Lib.hid hok; clear hok
    by_cases hlt : k < n
    · obtain ⟨b, o, rfl, hbB, x0, x1, x2, x3⟩ := (Hr.out.below hbel (Nat.le_refl _)).ins hlt
      have hi : Hid ((l.getD k default).right l.length words = rightB (l.getD k default).op (l.getD k default).a (l.getD k default).b (l.getD k default).c n words) := by
        show _ = _
        rw [Ins.right, Hl.out]
      generalize hid_i : l.getD k default = i at *
      have Hi := Lib.hid hid_i; clear hid_i
      obtain ⟨op, a, b', c''⟩ := i
      simp only at x0 x1 x2 x3 hi
      have hsz := hbel.size
      have Hbel := Lib.hid hbel; clear hbel
      have hi0 : (0 : Int) ≤ (k : Int) := by omega
      have hi1 : (k : Int) < (n : Int) := by omega
      by_cases hgood : rightB op a b' c'' n words = true
      · have Hg := Lib.hid hgood; clear hgood
        go_wp2_with (go_at_call 24; go_must (refine (rightr_any _ _ _ _ _ _ _).mono ?_); rintro e w4 ⟨rfl, hb⟩; rw [Hg.out]; have Hb := Lib.hid (Hbel.out.trans (hb.mono hsz)); clear hb)
        go_roundw
        case rel =>
          refine ⟨k + 1, by omega, by go_num, fun j hj => ?_, Hb.out⟩
          rcases Nat.lt_or_ge j k with hjk | hjk
          · exact Hok.out j hjk
          · obtain rfl : j = k := by omega
            rw [Hi.out, hi.out]; exact Hg.out
        case measure => simp [intOf]; omega
      · have hgood' : rightB op a b' c'' n words = false := by simpa using hgood
        have Hg := Lib.hid hgood'; clear hgood hgood'
        go_wp2_with (go_at_call 24; go_must (refine (rightr_any _ _ _ _ _ _ _).mono ?_); rintro e w4 ⟨rfl, hb⟩; rw [Hg.out]; have Hb := Lib.hid (Hbel.out.trans (hb.mono hsz)); clear hb)
        go_ret2
        have Hc := check_bad Hno.out (by have := Hl.out; omega : k < l.length) Hok.out (by rw [Hi.out, hi.out]; exact Hg.out)
        exact ⟨ret_pair (by rw [Hc]) (by rw [Hc]), Hb.out⟩
    · have hkn : k = n := by omega
      have Hk := Lib.hid hkn; have Hbel := Lib.hid hbel; clear hkn hbel
      go_wp2
      go_ret2
      have Hc := check_good Hno.out (fun j hj => Hok.out j (by have := Hl.out; have := Hk.out; omega))
      exact ⟨ret_pair (by rw [Hc]) (by rw [Hc]), Hbel.out⟩
end Go.Proofs.YtecolkpnllikaaaDoor
