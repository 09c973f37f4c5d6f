/- Deeds in memory; a purse made and stored by a region that draws its order. Nothing of the program stands in it but its tables, so there is no condition. -/
import Derived.Test.YtjiecnoplnaahaaPuR
import Derived.Test.YtjiecnoplnaahaaPuS
import Derived.Test.YtjiecnoplnaahaaPuP
import Derived.Test.YtjiecnoplnaahaaPuK2
namespace Go.Proofs.Ytjiecnoplnaahaa
open Go.RowKit Go.Lib


def dd0 : Dd := ⟨0, nm0, 0, 0, 0⟩
instance : Inhabited Dd := ⟨dd0⟩
def Dd.cells (d : Dd) : List Value := [.int .u8 (d.w : Int), .int .u8 (d.nm.x0 : Int), .int .u8 (d.nm.x1 : Int), .int .u8 (d.nm.x2 : Int), .int .u8 (d.nm.x3 : Int), .int .u8 (d.nm.x4 : Int), .int .u8 (d.nm.x5 : Int), .int .u8 (d.nm.x6 : Int), .int .u8 (d.nm.x7 : Int), .int .i64 d.am, .int .i64 d.fr, .int .i64 d.un]
def flatD (l : List Dd) : List Value := l.flatMap Dd.cells
theorem flatD_len (l : List Dd) : (flatD l).length = l.length * 12 := by
  induction l with
  | nil => rfl
  | cons i l ih =>
    have : flatD (i :: l) = i.cells ++ flatD l := by simp [flatD]
    rw [this, List.length_append, ih]; simp [Dd.cells]; omega
theorem flatD_at : ∀ (l : List Dd) (k j : Nat), k < l.length → j < 12 → (flatD l)[k * 12 + j]? = (l.getD k default).cells[j]? := by
  intro l
  induction l with
  | nil => intro k j h _; exact absurd h (by simp)
  | cons i l ih =>
    intro k j h hj
    have e : flatD (i :: l) = i.cells ++ flatD l := by simp [flatD]
    rw [e]
    cases k with
    | zero =>
      rw [List.getElem?_append_left (by simp [Dd.cells]; omega)]
      simp
    | succ k =>
      rw [List.getElem?_append_right (by simp [Dd.cells]; omega)]
      have h1 : (k + 1) * 12 + j - i.cells.length = k * 12 + j := by simp [Dd.cells]; omega
      rw [h1, ih k j (by simpa using h) hj]
      simp
/-- The twelve cells of deed k. -/
theorem Rd.dd {w : World} {B n : Nat} {A : Option Addr} {l : List Dd} (h : Rd w B 12 A n (flatD l)) {k : Nat} (hk : k < n) :
    ∃ b o, A = some ⟨b, o, none⟩ ∧ b < B ∧ w.cell? ⟨b, (o + k * 12), none⟩ = some (.int .u8 ((l.getD k default).w : Int)) ∧ w.cell? ⟨b, (o + k * 12) + 1, none⟩ = some (.int .u8 ((l.getD k default).nm.x0 : Int)) ∧ w.cell? ⟨b, (o + k * 12) + 2, none⟩ = some (.int .u8 ((l.getD k default).nm.x1 : Int)) ∧ w.cell? ⟨b, (o + k * 12) + 3, none⟩ = some (.int .u8 ((l.getD k default).nm.x2 : Int)) ∧ w.cell? ⟨b, (o + k * 12) + 4, none⟩ = some (.int .u8 ((l.getD k default).nm.x3 : Int)) ∧ w.cell? ⟨b, (o + k * 12) + 5, none⟩ = some (.int .u8 ((l.getD k default).nm.x4 : Int)) ∧ w.cell? ⟨b, (o + k * 12) + 6, none⟩ = some (.int .u8 ((l.getD k default).nm.x5 : Int)) ∧ w.cell? ⟨b, (o + k * 12) + 7, none⟩ = some (.int .u8 ((l.getD k default).nm.x6 : Int)) ∧ w.cell? ⟨b, (o + k * 12) + 8, none⟩ = some (.int .u8 ((l.getD k default).nm.x7 : Int)) ∧ w.cell? ⟨b, (o + k * 12) + 9, none⟩ = some (.int .i64 (l.getD k default).am) ∧ w.cell? ⟨b, (o + k * 12) + 10, none⟩ = some (.int .i64 (l.getD k default).fr) ∧ w.cell? ⟨b, (o + k * 12) + 11, none⟩ = some (.int .i64 (l.getD k default).un) := by
  have hl : l.length = n := by have := h.1; rw [flatD_len] at this; omega
  obtain ⟨b, o, e, hb, hc⟩ := h.2 (by omega)
  have f := fun j u (hj : j < 12) (hu : (l.getD k default).cells[j]? = some u) => hc (k * 12 + j) u ((flatD_at l k j (by omega) hj).trans hu)
  exact ⟨b, o, e, hb, f 0 _ (by omega) rfl, f 1 _ (by omega) rfl, f 2 _ (by omega) rfl, f 3 _ (by omega) rfl, f 4 _ (by omega) rfl, f 5 _ (by omega) rfl, f 6 _ (by omega) rfl, f 7 _ (by omega) rfl, f 8 _ (by omega) rfl, f 9 _ (by omega) rfl, f 10 _ (by omega) rfl, f 11 _ (by omega) rfl⟩
theorem Rd.dlen {w : World} {B n : Nat} {A : Option Addr} {l : List Dd} (h : Rd w B 12 A n (flatD l)) : l.length = n := by have := h.1; rw [flatD_len] at this; omega
/-- A purse's box and a deed's cells, in a later world. -/
theorem pd_below {w w' : World} {gx b o : Nat} {p : Pu} {A : Option Addr} {n c : Nat} {d : Dd} (hb : Below w.heap.size w w') (hx : gx < w.heap.size) (hd : b < w.heap.size) (h : (w.cell? ⟨gx, 0, none⟩ = some (.int .u8 (p.nm.x0 : Int)) ∧ w.cell? ⟨gx, 1, none⟩ = some (.int .u8 (p.nm.x1 : Int)) ∧ w.cell? ⟨gx, 2, none⟩ = some (.int .u8 (p.nm.x2 : Int)) ∧ w.cell? ⟨gx, 3, none⟩ = some (.int .u8 (p.nm.x3 : Int)) ∧ w.cell? ⟨gx, 4, none⟩ = some (.int .u8 (p.nm.x4 : Int)) ∧ w.cell? ⟨gx, 5, none⟩ = some (.int .u8 (p.nm.x5 : Int)) ∧ w.cell? ⟨gx, 6, none⟩ = some (.int .u8 (p.nm.x6 : Int)) ∧ w.cell? ⟨gx, 7, none⟩ = some (.int .u8 (p.nm.x7 : Int)) ∧ w.cell? ⟨gx, 8, none⟩ = some (.int .i64 p.no) ∧ w.cell? ⟨gx, 9, none⟩ = some (.int .i64 p.h0) ∧ w.cell? ⟨gx, 10, none⟩ = some (.int .i64 p.h1) ∧ w.cell? ⟨gx, 11, none⟩ = some (.slice A n c)) ∧ (w.cell? ⟨b, o, none⟩ = some (.int .u8 (d.w : Int)) ∧ w.cell? ⟨b, o + 1, none⟩ = some (.int .u8 (d.nm.x0 : Int)) ∧ w.cell? ⟨b, o + 2, none⟩ = some (.int .u8 (d.nm.x1 : Int)) ∧ w.cell? ⟨b, o + 3, none⟩ = some (.int .u8 (d.nm.x2 : Int)) ∧ w.cell? ⟨b, o + 4, none⟩ = some (.int .u8 (d.nm.x3 : Int)) ∧ w.cell? ⟨b, o + 5, none⟩ = some (.int .u8 (d.nm.x4 : Int)) ∧ w.cell? ⟨b, o + 6, none⟩ = some (.int .u8 (d.nm.x5 : Int)) ∧ w.cell? ⟨b, o + 7, none⟩ = some (.int .u8 (d.nm.x6 : Int)) ∧ w.cell? ⟨b, o + 8, none⟩ = some (.int .u8 (d.nm.x7 : Int)) ∧ w.cell? ⟨b, o + 9, none⟩ = some (.int .i64 d.am) ∧ w.cell? ⟨b, o + 10, none⟩ = some (.int .i64 d.fr) ∧ w.cell? ⟨b, o + 11, none⟩ = some (.int .i64 d.un))) :
    (w'.cell? ⟨gx, 0, none⟩ = some (.int .u8 (p.nm.x0 : Int)) ∧ w'.cell? ⟨gx, 1, none⟩ = some (.int .u8 (p.nm.x1 : Int)) ∧ w'.cell? ⟨gx, 2, none⟩ = some (.int .u8 (p.nm.x2 : Int)) ∧ w'.cell? ⟨gx, 3, none⟩ = some (.int .u8 (p.nm.x3 : Int)) ∧ w'.cell? ⟨gx, 4, none⟩ = some (.int .u8 (p.nm.x4 : Int)) ∧ w'.cell? ⟨gx, 5, none⟩ = some (.int .u8 (p.nm.x5 : Int)) ∧ w'.cell? ⟨gx, 6, none⟩ = some (.int .u8 (p.nm.x6 : Int)) ∧ w'.cell? ⟨gx, 7, none⟩ = some (.int .u8 (p.nm.x7 : Int)) ∧ w'.cell? ⟨gx, 8, none⟩ = some (.int .i64 p.no) ∧ w'.cell? ⟨gx, 9, none⟩ = some (.int .i64 p.h0) ∧ w'.cell? ⟨gx, 10, none⟩ = some (.int .i64 p.h1) ∧ w'.cell? ⟨gx, 11, none⟩ = some (.slice A n c)) ∧ (w'.cell? ⟨b, o, none⟩ = some (.int .u8 (d.w : Int)) ∧ w'.cell? ⟨b, o + 1, none⟩ = some (.int .u8 (d.nm.x0 : Int)) ∧ w'.cell? ⟨b, o + 2, none⟩ = some (.int .u8 (d.nm.x1 : Int)) ∧ w'.cell? ⟨b, o + 3, none⟩ = some (.int .u8 (d.nm.x2 : Int)) ∧ w'.cell? ⟨b, o + 4, none⟩ = some (.int .u8 (d.nm.x3 : Int)) ∧ w'.cell? ⟨b, o + 5, none⟩ = some (.int .u8 (d.nm.x4 : Int)) ∧ w'.cell? ⟨b, o + 6, none⟩ = some (.int .u8 (d.nm.x5 : Int)) ∧ w'.cell? ⟨b, o + 7, none⟩ = some (.int .u8 (d.nm.x6 : Int)) ∧ w'.cell? ⟨b, o + 8, none⟩ = some (.int .u8 (d.nm.x7 : Int)) ∧ w'.cell? ⟨b, o + 9, none⟩ = some (.int .i64 d.am) ∧ w'.cell? ⟨b, o + 10, none⟩ = some (.int .i64 d.fr) ∧ w'.cell? ⟨b, o + 11, none⟩ = some (.int .i64 d.un)) := by
  have k1 := fun i => hb.cell (p := ⟨gx, i, none⟩) hx
  have k2 := fun i => hb.cell (p := ⟨b, i, none⟩) hd
  simp only [k1, k2]
  exact h
/-- Twelve cells of a purse stored into a block. -/
theorem set12 {w : World} {g : Nat} {T : TypeId} {cs : Array Value} (h : w.heap[g]? = some (.cells cs T (0, 0))) (hs : cs.size = 12) (p : Pu) (A : Option Addr) (n c : Nat) :
    ((((((((((((w.setCell ⟨g, 0, none⟩ (.int .u8 (p.nm.x0 : Int))).setCell ⟨g, 1, none⟩ (.int .u8 (p.nm.x1 : Int))).setCell ⟨g, 2, none⟩ (.int .u8 (p.nm.x2 : Int))).setCell ⟨g, 3, none⟩ (.int .u8 (p.nm.x3 : Int))).setCell ⟨g, 4, none⟩ (.int .u8 (p.nm.x4 : Int))).setCell ⟨g, 5, none⟩ (.int .u8 (p.nm.x5 : Int))).setCell ⟨g, 6, none⟩ (.int .u8 (p.nm.x6 : Int))).setCell ⟨g, 7, none⟩ (.int .u8 (p.nm.x7 : Int))).setCell ⟨g, 8, none⟩ (.int .i64 p.no)).setCell ⟨g, 9, none⟩ (.int .i64 p.h0)).setCell ⟨g, 10, none⟩ (.int .i64 p.h1)).setCell ⟨g, 11, none⟩ (.slice A n c)).heap[g]? = some (.cells #[.int .u8 (p.nm.x0 : Int), .int .u8 (p.nm.x1 : Int), .int .u8 (p.nm.x2 : Int), .int .u8 (p.nm.x3 : Int), .int .u8 (p.nm.x4 : Int), .int .u8 (p.nm.x5 : Int), .int .u8 (p.nm.x6 : Int), .int .u8 (p.nm.x7 : Int), .int .i64 p.no, .int .i64 p.h0, .int .i64 p.h1, .slice A n c] T (0, 0)) ∧ w.grownBy ((((((((((((w.setCell ⟨g, 0, none⟩ (.int .u8 (p.nm.x0 : Int))).setCell ⟨g, 1, none⟩ (.int .u8 (p.nm.x1 : Int))).setCell ⟨g, 2, none⟩ (.int .u8 (p.nm.x2 : Int))).setCell ⟨g, 3, none⟩ (.int .u8 (p.nm.x3 : Int))).setCell ⟨g, 4, none⟩ (.int .u8 (p.nm.x4 : Int))).setCell ⟨g, 5, none⟩ (.int .u8 (p.nm.x5 : Int))).setCell ⟨g, 6, none⟩ (.int .u8 (p.nm.x6 : Int))).setCell ⟨g, 7, none⟩ (.int .u8 (p.nm.x7 : Int))).setCell ⟨g, 8, none⟩ (.int .i64 p.no)).setCell ⟨g, 9, none⟩ (.int .i64 p.h0)).setCell ⟨g, 10, none⟩ (.int .i64 p.h1)).setCell ⟨g, 11, none⟩ (.slice A n c)) (some g) := by
  have h1 := block_setCells (g := g) [.int .u8 (p.nm.x0 : Int), .int .u8 (p.nm.x1 : Int), .int .u8 (p.nm.x2 : Int), .int .u8 (p.nm.x3 : Int), .int .u8 (p.nm.x4 : Int), .int .u8 (p.nm.x5 : Int), .int .u8 (p.nm.x6 : Int), .int .u8 (p.nm.x7 : Int), .int .i64 p.no, .int .i64 p.h0, .int .i64 p.h1, .slice A n c] 0 w cs h
  have h2 := grown_setCells (g := g) [.int .u8 (p.nm.x0 : Int), .int .u8 (p.nm.x1 : Int), .int .u8 (p.nm.x2 : Int), .int .u8 (p.nm.x3 : Int), .int .u8 (p.nm.x4 : Int), .int .u8 (p.nm.x5 : Int), .int .u8 (p.nm.x6 : Int), .int .u8 (p.nm.x7 : Int), .int .i64 p.no, .int .i64 p.h0, .int .i64 p.h1, .slice A n c] 0 w
  have e : layA cs 0 [.int .u8 (p.nm.x0 : Int), .int .u8 (p.nm.x1 : Int), .int .u8 (p.nm.x2 : Int), .int .u8 (p.nm.x3 : Int), .int .u8 (p.nm.x4 : Int), .int .u8 (p.nm.x5 : Int), .int .u8 (p.nm.x6 : Int), .int .u8 (p.nm.x7 : Int), .int .i64 p.no, .int .i64 p.h0, .int .i64 p.h1, .slice A n c] = #[.int .u8 (p.nm.x0 : Int), .int .u8 (p.nm.x1 : Int), .int .u8 (p.nm.x2 : Int), .int .u8 (p.nm.x3 : Int), .int .u8 (p.nm.x4 : Int), .int .u8 (p.nm.x5 : Int), .int .u8 (p.nm.x6 : Int), .int .u8 (p.nm.x7 : Int), .int .i64 p.no, .int .i64 p.h0, .int .i64 p.h1, .slice A n c] := by
    apply Array.ext
    · rw [layA_size, hs]; rfl
    · intro j hj1 hj2
      have h3 := layA_at [.int .u8 (p.nm.x0 : Int), .int .u8 (p.nm.x1 : Int), .int .u8 (p.nm.x2 : Int), .int .u8 (p.nm.x3 : Int), .int .u8 (p.nm.x4 : Int), .int .u8 (p.nm.x5 : Int), .int .u8 (p.nm.x6 : Int), .int .u8 (p.nm.x7 : Int), .int .i64 p.no, .int .i64 p.h0, .int .i64 p.h1, .slice A n c] cs 0 j (by rw [hs]; exact Nat.le_refl _)
      have hj3 : j < 12 := by rw [layA_size, hs] at hj1; exact hj1
      rw [if_pos ⟨Nat.zero_le _, by show j < 0 + 12; omega⟩, Array.getElem?_eq_getElem hj1, Nat.sub_zero] at h3
      have h4 : [.int .u8 (p.nm.x0 : Int), .int .u8 (p.nm.x1 : Int), .int .u8 (p.nm.x2 : Int), .int .u8 (p.nm.x3 : Int), .int .u8 (p.nm.x4 : Int), .int .u8 (p.nm.x5 : Int), .int .u8 (p.nm.x6 : Int), .int .u8 (p.nm.x7 : Int), .int .i64 p.no, .int .i64 p.h0, .int .i64 p.h1, .slice A n c][j]? = (#[.int .u8 (p.nm.x0 : Int), .int .u8 (p.nm.x1 : Int), .int .u8 (p.nm.x2 : Int), .int .u8 (p.nm.x3 : Int), .int .u8 (p.nm.x4 : Int), .int .u8 (p.nm.x5 : Int), .int .u8 (p.nm.x6 : Int), .int .u8 (p.nm.x7 : Int), .int .i64 p.no, .int .i64 p.h0, .int .i64 p.h1, .slice A n c] : Array Value)[j]? := by rw [← Array.getElem?_toList]
      rw [h4, Array.getElem?_eq_getElem hj2] at h3
      injection h3
  rw [e] at h1
  exact ⟨h1, h2⟩
end Go.Proofs.Ytjiecnoplnaahaa
