/- What a key signed: the walks of Signed, and of the reference's. Conditions: bounds on how many. -/
import Derived.Test.YtebepgoaofhelaaNoM
namespace Go.Proofs.Ytebepgoaofhelaa
open Go.RowKit Go.Lib

theorem own_weak {w : World} {b b' : Nat} {e : TypeId} {sz n : Nat} {v : Value} {xs : List Value} (h : w.ownsRow b e sz v n xs) (hb : b' ≤ b) : w.ownsRow b' e sz v n xs := by
  refine ⟨h.1, ?_⟩
  rcases h.2 with h1 | ⟨g, cap, cur, h1, h2, h3⟩
  · exact .inl h1
  · exact .inr ⟨g, cap, cur, h1, Nat.le_trans hb h2, h3⟩
def D8.cells (d : D8) : List Value := [.int .u8 (d.x0 : Int), .int .u8 (d.x1 : Int), .int .u8 (d.x2 : Int), .int .u8 (d.x3 : Int), .int .u8 (d.x4 : Int), .int .u8 (d.x5 : Int), .int .u8 (d.x6 : Int), .int .u8 (d.x7 : Int)]
def flatD (l : List D8) : List Value := l.flatMap D8.cells
theorem flatD_len (l : List D8) : (flatD l).length = l.length * 8 := by
  induction l with
  | nil => rfl
  | cons i l ih =>
    have : flatD (i :: l) = i.cells ++ flatD l := by simp [flatD]
    rw [this, List.length_append, ih]; simp [D8.cells]; omega
theorem flatD_append (l m : List D8) : flatD (l ++ m) = flatD l ++ flatD m := by simp [flatD]
theorem flatD_at : ∀ (l : List D8) (k j : Nat), k < l.length → j < 8 → (flatD l)[k * 8 + j]? = (l.getD k ⟨0, 0, 0, 0, 0, 0, 0, 0⟩).cells[j]?
  | [], k, _, h, _ => by simp at h
  | i :: l, k, j, h, hj => by
    have e : flatD (i :: l) = i.cells ++ flatD l := by simp [flatD]
    have hc : i.cells.length = 8 := rfl
    rw [e]
    cases k with
    | zero => rw [List.getElem?_append_left (by omega)]; simp
    | succ k =>
      rw [List.getElem?_append_right (by omega), hc, show (k + 1) * 8 + j - 8 = k * 8 + j from by omega]
      have := flatD_at l k j (by simpa using h) hj
      simpa using this
theorem flatE_at : ∀ (l : List En) (k j : Nat), k < l.length → j < 16 → (flatE l)[k * 16 + j]? = (l.getD k default).cells[j]?
  | [], k, _, h, _ => by simp at h
  | i :: l, k, j, h, hj => by
    have e : flatE (i :: l) = i.cells ++ flatE l := by simp [flatE]
    have hc : i.cells.length = 16 := rfl
    rw [e]
    cases k with
    | zero => rw [List.getElem?_append_left (by omega)]; simp
    | succ k =>
      rw [List.getElem?_append_right (by omega), hc, show (k + 1) * 16 + j - 16 = k * 16 + j from by omega]
      have := flatE_at l k j (by simpa using h) hj
      simpa using this
theorem Rd.elen {w : World} {B n : Nat} {A : Option Addr} {l : List En} (h : Rd w B 16 A n (flatE l)) : l.length = n := by have := h.1; rw [flatE_len] at this; omega
theorem Rd.en {w : World} {B n : Nat} {A : Option Addr} {l : List En} (h : Rd w B 16 A n (flatE l)) {k : Nat} (hk : k < n) :
    ∃ b o, A = some ⟨b, o, none⟩ ∧ b < B ∧ ∀ j, j < 16 → w.cell? ⟨b, o + k * 16 + j, none⟩ = (l.getD k default).cells[j]? := by
  have hl := h.elen
  obtain ⟨b, o, e, hb, hc⟩ := h.2 (by omega)
  refine ⟨b, o, e, hb, fun j hj => ?_⟩
  have hs : ∃ u, (l.getD k default).cells[j]? = some u := ⟨_, List.getElem?_eq_getElem (by simpa [En.cells] using hj)⟩
  obtain ⟨u, hu⟩ := hs
  rw [hu, Nat.add_assoc]
  exact hc (k * 16 + j) u ((flatE_at l k j (by omega) hj).trans hu)
def isK (key : D8) (e : En) : Bool := eqI e.key.L key.L
def signedE (L : List En) (key : D8) : List D8 := (L.filter (isK key)).map En.msg
def signedN (W : List Nu) (k : Nat) : List Nat := (W.filter (fun e => e.k == k)).map Nu.m
theorem signedE_yes {L : List En} {key : D8} {k : Nat} (hk : k < L.length) (h : isK key (L.getD k default) = true) : signedE (L.take (k + 1)) key = signedE (L.take k) key ++ [(L.getD k default).msg] := by
  have : L.take (k + 1) = L.take k ++ [L.getD k default] := by rw [List.take_add_one, List.getElem?_eq_getElem hk]; simp [List.getD_eq_getElem?_getD, hk]
  unfold signedE
  rw [this, List.filter_append]
  generalize L.getD k default = d at *
  simp [h]
theorem signedE_no {L : List En} {key : D8} {k : Nat} (hk : k < L.length) (h : isK key (L.getD k default) = false) : signedE (L.take (k + 1)) key = signedE (L.take k) key := by
  have : L.take (k + 1) = L.take k ++ [L.getD k default] := by rw [List.take_add_one, List.getElem?_eq_getElem hk]; simp [List.getD_eq_getElem?_getD, hk]
  unfold signedE
  rw [this, List.filter_append]
  generalize L.getD k default = d at *
  simp [h]
theorem info_Di : (Try.prog.info? 23).map (fun i => (i.zero, i.size, i.bytes)) = some (some (.agg #[.int .u8 0, .int .u8 0, .int .u8 0, .int .u8 0, .int .u8 0, .int .u8 0, .int .u8 0, .int .u8 0]), 8, 8) := by kernel_rfl
theorem info_u64 : (Try.prog.info? 41).map (fun i => (i.zero, i.size, i.bytes)) = some (some (.int .u64 0), 1, 8) := by kernel_rfl
def bv64 (l : List Nat) : List Value := l.map fun x => .int .u64 ((x : Nat) : Int)
theorem bv64_append (l m : List Nat) : bv64 (l ++ m) = bv64 l ++ bv64 m := by simp [bv64]
end Go.Proofs.Ytebepgoaofhelaa
