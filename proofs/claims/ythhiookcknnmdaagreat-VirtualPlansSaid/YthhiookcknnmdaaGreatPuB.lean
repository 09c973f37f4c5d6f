/- Purses in memory; the walks of the small questions, and of the sum. Conditions: bounds. -/
import Derived.Test.YthhiookcknnmdaaGreatProg
import Derived.Test.YthhiookcknnmdaaGreatPuA
import Derived.Test.YthhiookcknnmdaaGreatSlice
import Derived.Test.YthhiookcknnmdaaGreatDigEq
namespace Go.Proofs.YthhiookcknnmdaaGreat
open Go.RowKit Go.Lib


def Hd.cells (h : Hd) : List Value := [.int .u8 h.nm.x0, .int .u8 h.nm.x1, .int .u8 h.nm.x2, .int .u8 h.nm.x3, .int .u8 h.nm.x4, .int .u8 h.nm.x5, .int .u8 h.nm.x6, .int .u8 h.nm.x7, .int .i64 h.am, .int .i64 h.fr, .int .i64 h.un]
def flatH (l : List Hd) : List Value := l.flatMap Hd.cells
theorem flatH_len (l : List Hd) : (flatH l).length = l.length * 11 := by
 induction l with
 | nil => rfl
 | cons i l ih =>
  have : flatH (i :: l) = i.cells ++ flatH l := by simp [flatH]
  rw [this, List.length_append, ih]; simp [Hd.cells]; omega
theorem flatH_append (l m : List Hd) : flatH (l ++ m) = flatH l ++ flatH m := by simp [flatH]
theorem flatH_at : ∀ (l : List Hd) (k j : Nat), k < l.length → j < 11 → (flatH l)[k * 11 + j]? = (l.getD k default).cells[j]? := by
 intro l
 induction l with
 | nil => intro k j h _; exact absurd h (by simp)
 | cons i l ih =>
  intro k j h hj
  have e : flatH (i :: l) = i.cells ++ flatH l := by simp [flatH]
  rw [e]
  cases k with
  | zero =>
   rw [List.getElem?_append_left (by simp [Hd.cells]; omega)]
   simp
  | succ k =>
   rw [List.getElem?_append_right (by simp [Hd.cells]; omega)]
   have h1 : (k + 1) * 11 + j - i.cells.length = k * 11 + j := by simp [Hd.cells]; omega
   rw [h1, ih k j (by simpa using h) hj]
   simp
theorem flatH_one (l : List Hd) : ∀ u ∈ flatH l, u.oneCell' = true := by
 intro u hu
 simp only [flatH, List.mem_flatMap, Hd.cells] at hu
 obtain ⟨h, _, hu⟩ := hu
 simp at hu
 rcases hu with rfl | rfl | rfl | rfl | rfl | rfl | rfl | rfl | rfl | rfl | rfl <;> rfl
theorem flatH_take (l : List Hd) (k : Nat) : flatH (l.take k) = (flatH l).take (k * 11) := by
 induction l generalizing k with
 | nil => simp [flatH]
 | cons i l ih =>
  have e : flatH (i :: l) = i.cells ++ flatH l := by simp [flatH]
  have hl : i.cells.length = 11 := rfl
  cases k with
  | zero => simp [flatH]
  | succ k =>
   have e2 : flatH ((i :: l).take (k + 1)) = i.cells ++ flatH (l.take k) := by simp [flatH]
   rw [e, e2, ih, List.take_append, hl, show List.take ((k + 1) * 11) i.cells = i.cells from List.take_of_length_le (by rw [hl]; omega), show (k + 1) * 11 - 11 = k * 11 by omega]
theorem flatH_drop (l : List Hd) (k : Nat) : flatH (l.drop k) = (flatH l).drop (k * 11) := by
 induction l generalizing k with
 | nil => simp [flatH]
 | cons i l ih =>
  have e : flatH (i :: l) = i.cells ++ flatH l := by simp [flatH]
  have hl : i.cells.length = 11 := rfl
  cases k with
  | zero => simp
  | succ k =>
   have e2 : (i :: l).drop (k + 1) = l.drop k := rfl
   rw [e, e2, ih, List.drop_append, hl, show List.drop ((k + 1) * 11) i.cells = [] from List.drop_of_length_le (by rw [hl]; omega), List.nil_append, show (k + 1) * 11 - 11 = k * 11 by omega]
theorem take_hd {l : List Hd} {k : Nat} (h : k < l.length) : l.take (k + 1) = l.take k ++ [l.getD k default] := by
 rw [List.take_succ_eq_append_getElem h, List.getD_eq_getElem?_getD, List.getElem?_eq_getElem h]; rfl
theorem below_one (w : World) (a : Obj) : Below w.heap.size w (w.alloc a) := (Below.refl _ _).alloc (Nat.le_refl _) _
theorem below_two (w : World) (a b : Obj) : Below w.heap.size w ((w.alloc a).alloc b) := ((Below.refl _ _).alloc (Nat.le_refl _) _).alloc (by simp) _
theorem Rd.up {w w' : World} {B sz n : Nat} {A : Option Addr} {xs : List Value} (h : Rd w B sz A n xs) (hb : Below w.heap.size w w') (hB : B ≤ w.heap.size) : Rd w' w'.heap.size sz A n xs :=
 (h.below hb hB).more (Nat.le_trans hB hb.size)
theorem Rd.hd {w : World} {B n : Nat} {A : Option Addr} {l : List Hd} (h : Rd w B 11 A n (flatH l)) {k : Nat} (hk : k < n) :
  ∃ b o, A = some ⟨b, o, none⟩ ∧ b < B ∧ w.cell? ⟨b, o + k * 11, none⟩ = some (.int .u8 (l.getD k default).nm.x0) ∧ w.cell? ⟨b, o + k * 11 + 1, none⟩ = some (.int .u8 (l.getD k default).nm.x1) ∧
   w.cell? ⟨b, o + k * 11 + 2, none⟩ = some (.int .u8 (l.getD k default).nm.x2) ∧ w.cell? ⟨b, o + k * 11 + 3, none⟩ = some (.int .u8 (l.getD k default).nm.x3) ∧
   w.cell? ⟨b, o + k * 11 + 4, none⟩ = some (.int .u8 (l.getD k default).nm.x4) ∧ w.cell? ⟨b, o + k * 11 + 5, none⟩ = some (.int .u8 (l.getD k default).nm.x5) ∧
   w.cell? ⟨b, o + k * 11 + 6, none⟩ = some (.int .u8 (l.getD k default).nm.x6) ∧ w.cell? ⟨b, o + k * 11 + 7, none⟩ = some (.int .u8 (l.getD k default).nm.x7) ∧
   w.cell? ⟨b, o + k * 11 + 8, none⟩ = some (.int .i64 (l.getD k default).am) ∧ w.cell? ⟨b, o + k * 11 + 9, none⟩ = some (.int .i64 (l.getD k default).fr) ∧ w.cell? ⟨b, o + k * 11 + 10, none⟩ = some (.int .i64 (l.getD k default).un) := by
 have hl : l.length = n := by have := h.1; rw [flatH_len] at this; omega
 obtain ⟨b, o, e, hb, hc⟩ := h.2 (by omega)
 have f := fun j u (hj : j < 11) (hu : (l.getD k default).cells[j]? = some u) => hc (k * 11 + j) u ((flatH_at l k j (by omega) hj).trans hu)
 exact ⟨b, o, e, hb, f 0 _ (by omega) rfl, f 1 _ (by omega) rfl, f 2 _ (by omega) rfl, f 3 _ (by omega) rfl, f 4 _ (by omega) rfl, f 5 _ (by omega) rfl, f 6 _ (by omega) rfl, f 7 _ (by omega) rfl, f 8 _ (by omega) rfl, f 9 _ (by omega) rfl, f 10 _ (by omega) rfl⟩
theorem Rd.hlen {w : World} {B n : Nat} {A : Option Addr} {l : List Hd} (h : Rd w B 11 A n (flatH l)) : l.length = n := by have := h.1; rw [flatH_len] at this; omega
theorem far_dec (n : Int) : far n = (decide (0 ≤ n) && decide (n ≤ 1099511627776)) := rfl
theorem rgt_dec (n : Int) : rgt n = (decide (0 ≤ n) && decide (n ≤ 1125899906842624)) := rfl
set_option maxRecDepth 100000 in
theorem far_any (n : Int) (w : World) : Calls Tryz.prog 150 #[.int .i64 n] w fun e w' => e = .returned (.bool (far n)) ∧ w = w' := by
 have H := Lib.hid (far_dec n)
 by_cases h : 0 ≤ n
 ·by_cases h2 : n ≤ 1099511627776
  ·have q1 : decide (0 ≤ n) = true := decide_eq_true h
   have q2 : decide (n ≤ 1099511627776) = true := decide_eq_true h2
   rw [q1, q2] at H
   clear h h2
   go_enter Tryz.func150, Tryz.ntmps150
   go_wp2
   go_ret
   exact ⟨ret_bool (by rw [H.out]; rfl), rfl⟩
  ·have q1 : decide (0 ≤ n) = true := decide_eq_true h
   have q2 : decide (n ≤ 1099511627776) = false := decide_eq_false h2
   rw [q1, q2] at H
   clear h h2
   go_enter Tryz.func150, Tryz.ntmps150
   go_wp2
   go_ret
   exact ⟨ret_bool (by rw [H.out]; rfl), rfl⟩
 ·have q1 : decide (0 ≤ n) = false := decide_eq_false h
  rw [q1] at H
  clear h
  go_enter Tryz.func150, Tryz.ntmps150
  go_wp2
  go_ret
  exact ⟨ret_bool (by rw [H.out]; rfl), rfl⟩
set_option maxRecDepth 100000 in
theorem rgt_any (n : Int) (w : World) : Calls Tryz.prog 151 #[.int .i64 n] w fun e w' => e = .returned (.bool (rgt n)) ∧ w = w' := by
 have H := Lib.hid (rgt_dec n)
 by_cases h : 0 ≤ n
 ·by_cases h2 : n ≤ 1125899906842624
  ·have q1 : decide (0 ≤ n) = true := decide_eq_true h
   have q2 : decide (n ≤ 1125899906842624) = true := decide_eq_true h2
   rw [q1, q2] at H
   clear h h2
   go_enter Tryz.func151, Tryz.ntmps151
   go_wp2
   go_ret
   exact ⟨ret_bool (by rw [H.out]; rfl), rfl⟩
  ·have q1 : decide (0 ≤ n) = true := decide_eq_true h
   have q2 : decide (n ≤ 1125899906842624) = false := decide_eq_false h2
   rw [q1, q2] at H
   clear h h2
   go_enter Tryz.func151, Tryz.ntmps151
   go_wp2
   go_ret
   exact ⟨ret_bool (by rw [H.out]; rfl), rfl⟩
 ·have q1 : decide (0 ≤ n) = false := decide_eq_false h
  rw [q1] at H
  clear h
  go_enter Tryz.func151, Tryz.ntmps151
  go_wp2
  go_ret
  exact ⟨ret_bool (by rw [H.out]; rfl), rfl⟩
set_option maxRecDepth 100000 in
theorem some_any (n : Int) (w : World) : Calls Tryz.prog 152 #[.int .i64 n] w fun e w' => e = .returned (.bool (posB n)) ∧ w = w' := by
 have H : Hid (posB n = (decide (0 < n) && rgt n)) := by show _ = _; rfl
 by_cases h : 0 < n
 ·have q1 : decide (0 < n) = true := decide_eq_true h
  rw [q1] at H
  clear h
  go_enter Tryz.func152, Tryz.ntmps152
  go_wp2_with (go_at_call 151; refine (rgt_any _ _).mono ?_; rintro e w' ⟨rfl, rfl⟩)
  go_ret
  exact ⟨ret_bool (by rw [H.out]; rfl), rfl⟩
 ·have q1 : decide (0 < n) = false := decide_eq_false h
  rw [q1] at H
  clear h
  go_enter Tryz.func152, Tryz.ntmps152
  go_wp2
  go_ret
  exact ⟨ret_bool (by rw [H.out]; rfl), rfl⟩
structure PuV.At (p : Pu) (A : Option Addr) (n c : Nat) (w : World) : Prop where
 rd : Rd w w.heap.size 11 A n (flatH p.held)
 cap : n ≤ c
 small : n ≤ 1000000
theorem PuV.At.up {p : Pu} {A : Option Addr} {n c : Nat} {w w' : World} (h : PuV.At p A n c w) (hb : Below w.heap.size w w') : PuV.At p A n c w' :=
 ⟨h.rd.up hb (Nat.le_refl _), h.cap, h.small⟩
theorem sumL_take {l : List Hd} {k : Nat} (h : k < l.length) : sumL (l.take (k + 1)) = sumL (l.take k) + (l.getD k default).am := by
 rw [take_hd h, sumL_append, sumL_one]
theorem sumL_bound {l : List Hd} (hok : ∀ j, j < l.length → 0 ≤ (l.getD j default).am ∧ (l.getD j default).am ≤ 1125899906842624) (k : Nat) (hk : k ≤ l.length) : 0 ≤ sumL (l.take k) ∧ sumL (l.take k) ≤ k * 1125899906842624 := by
 induction k with
 | zero => simp [sumL]
 | succ k ih =>
  have := ih (by omega)
  have h2 := hok k (by omega)
  rw [sumL_take (by omega)]
  omega
set_option maxRecDepth 100000 in
set_option maxHeartbeats 1000000 in
theorem sum_any (p : Pu) (A : Option Addr) (n c : Nat) (w : World) (h : PuV.At p A n c w) (hn : n ≤ 16) (h0 : 0 ≤ p.h0 ∧ p.h0 ≤ 1125899906842624) (h1 : 0 ≤ p.h1 ∧ p.h1 ≤ 1125899906842624)
  (hok : ∀ j, j < p.held.length → 0 ≤ (p.held.getD j default).am ∧ (p.held.getD j default).am ≤ 1125899906842624) :
  Calls Tryz.prog 97 #[.agg #[.int .u8 p.nm.x0, .int .u8 p.nm.x1, .int .u8 p.nm.x2, .int .u8 p.nm.x3, .int .u8 p.nm.x4, .int .u8 p.nm.x5, .int .u8 p.nm.x6, .int .u8 p.nm.x7, .int .i64 p.no, .int .i64 p.h0, .int .i64 p.h1, .slice A n c]] w fun e w' => e = .returned (.int .i64 p.sum) ∧ Below w.heap.size w w' := by
 obtain ⟨p0, p1⟩ := h0
 obtain ⟨p2, p3⟩ := h1
 have H := Lib.hid h
 have Hl := Lib.hid h.rd.hlen
 have Hok := Lib.hid hok
 clear h hok
 go_enter Tryz.func97, Tryz.ntmps97
 go_wp2
 go_loopw [3, 16] (fun s i wr => ∃ k : Nat, k ≤ n ∧ i = .int .i64 k ∧ s = .int .i64 (p.h0 + p.h1 + sumL (p.held.take k)) ∧ Below w.heap.size w wr) (fun _ i _ => n - (intOf i).toNat)
 case atStart => exact ⟨0, by omega, rfl, by simp [sumL], below_one _ _⟩
 case round =>
  obtain ⟨k, hk, rfl, rfl, hbel⟩ := hrel
  have Hbel := Lib.hid hbel
  have hsb := sumL_bound Hok.out k (by have := Hl.out; omega)
  obtain ⟨s0, s1⟩ := hsb
  by_cases hlt : k < n
  ·obtain ⟨b, o, rfl, hbB, x0, x1, x2, x3, x4, x5, x6, x7, x8, x9, x10⟩ := (H.out.rd.up hbel (Nat.le_refl _)).hd hlt
   have hok := Hok.out k (by have := Hl.out; omega)
   have Hst := Lib.hid (sumL_take (l := p.held) (k := k) (by have := Hl.out; omega))
   obtain ⟨k0, k1⟩ := hok
   generalize p.held.getD k default = h at *
   generalize sumL (p.held.take k) = s at *
   have hsz := hbel.size
   clear hbel
   have hi0 : (0 : Int) ≤ (k : Int) := by omega
   have hi1 : (k : Int) < (n : Int) := by omega
   have hki : (k : Int) ≤ 15 := by omega
   go_wp2
   go_roundw
   case rel => exact ⟨k + 1, by omega, by go_num, by rw [Hst.out]; first | rfl | (congr 1; omega), Hbel.out.alloc hsz _⟩
   case measure => simp [intOf]; omega
  ·have hkn : k = n := by omega
   have Hk := Lib.hid hkn
   clear hbel hkn
   go_wp2
   go_ret
   have e : p.held.take k = p.held := List.take_of_length_le (by have := Hl.out; have := Hk.out; omega)
   exact ⟨ret_int (by rw [e]; rfl), Hbel.out⟩
end Go.Proofs.YthhiookcknnmdaaGreat
