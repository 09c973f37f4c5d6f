/- Deeds, plain and in memory; when a plan may be. No program in it but its types' tables, so there is no condition. -/
import Derived.Test.YtigolkdclacikaaDoorProg
import Derived.Test.YtigolkdclacikaaDoorWords
import Derived.Test.YtigolkdclacikaaDoorAppend
import Derived.WalkLawsBesides
import Derived.Laws.StructEq
namespace Go.Proofs.YtigolkdclacikaaDoor
open Go.RowKit Go.Lib
structure De where
  t : Int
  k : Int
  w : Int
  a : Int
  b : Int
instance : Inhabited De := ⟨⟨0, 0, 0, 0, 0⟩⟩
def De.cells (d : De) : List Value := [.int .i64 d.t, .int .i64 d.k, .int .i64 d.w, .int .i64 d.a, .int .i64 d.b]
def flat (l : List De) : List Value := l.flatMap De.cells
theorem flat_len (l : List De) : (flat l).length = l.length * 5 := by
  induction l with
  | nil => rfl
  | cons i l ih =>
    have : flat (i :: l) = i.cells ++ flat l := by simp [flat]
    rw [this, List.length_append, ih]; simp [De.cells]; omega
theorem flat_append (l m : List De) : flat (l ++ m) = flat l ++ flat m := by simp [flat]
theorem flat_at : ∀ (l : List De) (k j : Nat), k < l.length → j < 5 → (flat l)[k * 5 + j]? = (l.getD k default).cells[j]? := by
  intro l
  induction l with
  | nil => intro k j h _; exact absurd h (by simp)
  | cons i l ih =>
    intro k j h hj
    have e : flat (i :: l) = i.cells ++ flat l := by simp [flat]
    rw [e]
    cases k with
    | zero =>
      rw [List.getElem?_append_left (by simp [De.cells]; omega)]
      simp
    | succ k =>
      rw [List.getElem?_append_right (by simp [De.cells]; omega)]
      have h1 : (k + 1) * 5 + j - i.cells.length = k * 5 + j := by simp [De.cells]; omega
      rw [h1, ih k j (by simpa using h) hj]
      simp
theorem take_de {l : List De} {k : Nat} (h : k < l.length) : l.take (k + 1) = l.take k ++ [l.getD k default] := by
  rw [List.take_succ_eq_append_getElem h, List.getD_eq_getElem?_getD, List.getElem?_eq_getElem h]; rfl
theorem Rd.dlen {w : World} {B n : Nat} {A : Option Addr} {l : List De} (h : Rd w B 5 A n (flat l)) : l.length = n := by have := h.1; rw [flat_len] at this; omega
/-- The five cells of element k. -/
theorem Rd.de {w : World} {B n : Nat} {A : Option Addr} {l : List De} (h : Rd w B 5 A n (flat l)) {k : Nat} (hk : k < n) :
    ∃ b o, A = some ⟨b, o, none⟩ ∧ b < B ∧ w.cell? ⟨b, o + k * 5, none⟩ = some (.int .i64 (l.getD k default).t) ∧ w.cell? ⟨b, o + k * 5 + 1, none⟩ = some (.int .i64 (l.getD k default).k) ∧
      w.cell? ⟨b, o + k * 5 + 2, none⟩ = some (.int .i64 (l.getD k default).w) ∧ w.cell? ⟨b, o + k * 5 + 3, none⟩ = some (.int .i64 (l.getD k default).a) ∧ w.cell? ⟨b, o + k * 5 + 4, none⟩ = some (.int .i64 (l.getD k default).b) := by
  have hl := h.dlen
  obtain ⟨b, o, e, hb, hc⟩ := h.2 (by omega)
  refine ⟨b, o, e, hb, ?_, ?_, ?_, ?_, ?_⟩
  · exact hc (k * 5 + 0) _ (flat_at l k 0 (by omega) (by omega))
  · exact hc (k * 5 + 1) _ (flat_at l k 1 (by omega) (by omega))
  · exact hc (k * 5 + 2) _ (flat_at l k 2 (by omega) (by omega))
  · exact hc (k * 5 + 3) _ (flat_at l k 3 (by omega) (by omega))
  · exact hc (k * 5 + 4) _ (flat_at l k 4 (by omega) (by omega))
def inD (n most : Int) : Bool := decide (0 ≤ n) && decide (n ≤ most)
theorem inD_yes {n most : Int} (h : 0 ≤ n) (h' : n ≤ most) : inD n most = true := by simp [inD, h, h']
theorem inD_no {n most : Int} (h : n < 0 ∨ most < n) : inD n most = false := by simp [inD]; omega
theorem inD_iff {n most : Int} : inD n most = true ↔ 0 ≤ n ∧ n ≤ most := by simp [inD]
/-- What is wrong with deed i; 0: nothing. -/
def dErr (l : List De) (players : Int) (i : Nat) : Int :=
  if inD (l.getD i default).t 1048576 = false then 2
  else if 0 < i ∧ (l.getD i default).t < (l.getD (i - 1) default).t then 18
  else if inD (l.getD i default).k 14 = false then 1
  else if inD (l.getD i default).w (players - 1) = false then 28
  else if inD (l.getD i default).a 1000 = false ∨ inD (l.getD i default).b 1000 = false then 2
  else 0
def checkD (l : List De) (players : Int) : Int :=
  if players < 1 ∨ 16 < players then 1
  else if 256 < l.length then 8
  else match (List.range l.length).find? (fun i => dErr l players i != 0) with
    | some i => dErr l players i
    | none => 0
theorem check_who {l : List De} {players : Int} (h : players < 1 ∨ 16 < players) : checkD l players = 1 := by unfold checkD; rw [if_pos h]
theorem check_many {l : List De} {players : Int} (h : ¬ (players < 1 ∨ 16 < players)) (h2 : 256 < l.length) : checkD l players = 8 := by unfold checkD; rw [if_neg h, if_pos h2]
theorem check_bad {l : List De} {players : Int} (h : ¬ (players < 1 ∨ 16 < players)) (h2 : ¬ 256 < l.length) {k : Nat} (hk : k < l.length) (hok : ∀ j, j < k → dErr l players j = 0) (hb : dErr l players k ≠ 0) : checkD l players = dErr l players k := by
  have : (List.range l.length).find? (fun i => dErr l players i != 0) = some k := by
    rw [List.find?_range_eq_some]
    refine ⟨by simpa using hb, by simpa using hk, fun j hj => by simpa using hok j hj⟩
  unfold checkD
  rw [if_neg h, if_neg h2, this]
theorem check_good {l : List De} {players : Int} (h : ¬ (players < 1 ∨ 16 < players)) (h2 : ¬ 256 < l.length) (hok : ∀ j, j < l.length → dErr l players j = 0) : checkD l players = 0 := by
  have : (List.range l.length).find? (fun i => dErr l players i != 0) = none := by
    rw [List.find?_range_eq_none]
    intro j hj
    simpa using hok j hj
  unfold checkD
  rw [if_neg h, if_neg h2, this]
end Go.Proofs.YtigolkdclacikaaDoor
