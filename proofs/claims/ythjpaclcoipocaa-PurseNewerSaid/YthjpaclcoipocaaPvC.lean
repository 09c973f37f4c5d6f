/- Two purses made beside one another in a region that draws its order: words and the region's invariant. Nothing of the program stands in it but its tables, so there is no condition. -/
import Derived.Test.YthjpaclcoipocaaPvA
import Derived.Test.YthjpaclcoipocaaPuH0
import Derived.Test.YthjpaclcoipocaaInv
namespace Go.Proofs.Ythjpaclcoipocaa
open Go.RowKit Go.Lib


theorem listed_in {L : Array Bool} {i k : Nat} (h : L.getD k false = true) : (L.setIfInBounds i true).getD k false = true := getD_set_true h
theorem yet_no {L : Array Bool} {k : Nat} (h0 : L.getD k true = false) : ¬ L.getD k false = true := by
  intro h
  rcases Nat.lt_or_ge k L.size with h' | h'
  · rw [getD_in h' false true, h0] at h; cases h
  · rw [Array.getD_eq_getD_getElem?, Array.getElem?_eq_none h'] at h0; cases h0
theorem set12Q {w : World} {g : Nat} {T : TypeId} {cs : Array Value} (h : w.heap[g]? = some (.cells cs T (0, 0))) (hs : cs.size = 12) (p : Pu) (A : Option Addr) (n c : Nat) :
    ((((((((((((w.setCell ⟨g, 0, none⟩ (.int .u8 (p.nm.x0 : Int))).setCell ⟨g, 1, none⟩ (.int .u8 (p.nm.x1 : Int))).setCell ⟨g, 2, none⟩ (.int .u8 (p.nm.x2 : Int))).setCell ⟨g, 3, none⟩ (.int .u8 (p.nm.x3 : Int))).setCell ⟨g, 4, none⟩ (.int .u8 (p.nm.x4 : Int))).setCell ⟨g, 5, none⟩ (.int .u8 (p.nm.x5 : Int))).setCell ⟨g, 6, none⟩ (.int .u8 (p.nm.x6 : Int))).setCell ⟨g, 7, none⟩ (.int .u8 (p.nm.x7 : Int))).setCell ⟨g, 8, none⟩ (.int .i64 p.no)).setCell ⟨g, 9, none⟩ (.int .i64 p.h0)).setCell ⟨g, 10, none⟩ (.int .i64 p.h1)).setCell ⟨g, 11, none⟩ (.slice A n c)).heap[g]? = some (.cells #[.int .u8 (p.nm.x0 : Int), .int .u8 (p.nm.x1 : Int), .int .u8 (p.nm.x2 : Int), .int .u8 (p.nm.x3 : Int), .int .u8 (p.nm.x4 : Int), .int .u8 (p.nm.x5 : Int), .int .u8 (p.nm.x6 : Int), .int .u8 (p.nm.x7 : Int), .int .i64 p.no, .int .i64 p.h0, .int .i64 p.h1, .slice A n c] T (0, 0)) ∧ w.grownBy ((((((((((((w.setCell ⟨g, 0, none⟩ (.int .u8 (p.nm.x0 : Int))).setCell ⟨g, 1, none⟩ (.int .u8 (p.nm.x1 : Int))).setCell ⟨g, 2, none⟩ (.int .u8 (p.nm.x2 : Int))).setCell ⟨g, 3, none⟩ (.int .u8 (p.nm.x3 : Int))).setCell ⟨g, 4, none⟩ (.int .u8 (p.nm.x4 : Int))).setCell ⟨g, 5, none⟩ (.int .u8 (p.nm.x5 : Int))).setCell ⟨g, 6, none⟩ (.int .u8 (p.nm.x6 : Int))).setCell ⟨g, 7, none⟩ (.int .u8 (p.nm.x7 : Int))).setCell ⟨g, 8, none⟩ (.int .i64 p.no)).setCell ⟨g, 9, none⟩ (.int .i64 p.h0)).setCell ⟨g, 10, none⟩ (.int .i64 p.h1)).setCell ⟨g, 11, none⟩ (.slice A n c)) (some g) := by
  have h1 := block_setCells (g := g) [.int .u8 (p.nm.x0 : Int), .int .u8 (p.nm.x1 : Int), .int .u8 (p.nm.x2 : Int), .int .u8 (p.nm.x3 : Int), .int .u8 (p.nm.x4 : Int), .int .u8 (p.nm.x5 : Int), .int .u8 (p.nm.x6 : Int), .int .u8 (p.nm.x7 : Int), .int .i64 p.no, .int .i64 p.h0, .int .i64 p.h1, .slice A n c] 0 w cs h
  have h2 := grown_setCells (g := g) [.int .u8 (p.nm.x0 : Int), .int .u8 (p.nm.x1 : Int), .int .u8 (p.nm.x2 : Int), .int .u8 (p.nm.x3 : Int), .int .u8 (p.nm.x4 : Int), .int .u8 (p.nm.x5 : Int), .int .u8 (p.nm.x6 : Int), .int .u8 (p.nm.x7 : Int), .int .i64 p.no, .int .i64 p.h0, .int .i64 p.h1, .slice A n c] 0 w
  have e : layA cs 0 [.int .u8 (p.nm.x0 : Int), .int .u8 (p.nm.x1 : Int), .int .u8 (p.nm.x2 : Int), .int .u8 (p.nm.x3 : Int), .int .u8 (p.nm.x4 : Int), .int .u8 (p.nm.x5 : Int), .int .u8 (p.nm.x6 : Int), .int .u8 (p.nm.x7 : Int), .int .i64 p.no, .int .i64 p.h0, .int .i64 p.h1, .slice A n c] = #[.int .u8 (p.nm.x0 : Int), .int .u8 (p.nm.x1 : Int), .int .u8 (p.nm.x2 : Int), .int .u8 (p.nm.x3 : Int), .int .u8 (p.nm.x4 : Int), .int .u8 (p.nm.x5 : Int), .int .u8 (p.nm.x6 : Int), .int .u8 (p.nm.x7 : Int), .int .i64 p.no, .int .i64 p.h0, .int .i64 p.h1, .slice A n c] := by
    apply Array.ext
    · rw [layA_size, hs]; rfl
    · intro j hj1 hj2
      have h3 := layA_at [.int .u8 (p.nm.x0 : Int), .int .u8 (p.nm.x1 : Int), .int .u8 (p.nm.x2 : Int), .int .u8 (p.nm.x3 : Int), .int .u8 (p.nm.x4 : Int), .int .u8 (p.nm.x5 : Int), .int .u8 (p.nm.x6 : Int), .int .u8 (p.nm.x7 : Int), .int .i64 p.no, .int .i64 p.h0, .int .i64 p.h1, .slice A n c] cs 0 j (by rw [hs]; exact Nat.le_refl _)
      have hj3 : j < 12 := by rw [layA_size, hs] at hj1; exact hj1
      rw [if_pos ⟨Nat.zero_le _, by show j < 0 + 12; omega⟩, Array.getElem?_eq_getElem hj1, Nat.sub_zero] at h3
      have h4 : [.int .u8 (p.nm.x0 : Int), .int .u8 (p.nm.x1 : Int), .int .u8 (p.nm.x2 : Int), .int .u8 (p.nm.x3 : Int), .int .u8 (p.nm.x4 : Int), .int .u8 (p.nm.x5 : Int), .int .u8 (p.nm.x6 : Int), .int .u8 (p.nm.x7 : Int), .int .i64 p.no, .int .i64 p.h0, .int .i64 p.h1, .slice A n c][j]? = (#[.int .u8 (p.nm.x0 : Int), .int .u8 (p.nm.x1 : Int), .int .u8 (p.nm.x2 : Int), .int .u8 (p.nm.x3 : Int), .int .u8 (p.nm.x4 : Int), .int .u8 (p.nm.x5 : Int), .int .u8 (p.nm.x6 : Int), .int .u8 (p.nm.x7 : Int), .int .i64 p.no, .int .i64 p.h0, .int .i64 p.h1, .slice A n c] : Array Value)[j]? := by rw [← Array.getElem?_toList]
      rw [h4, Array.getElem?_eq_getElem hj2] at h3
      injection h3
  rw [e] at h1
  exact ⟨h1, h2⟩
/-- A purse's box that the region made; what it holds; a purse of one's own as a value. -/
def BoxQ (W x : World) (v : Value) : Prop := ∃ g cs, v = .pointer (some ⟨g, 0, none⟩) ∧ W.heap.size ≤ g ∧ x.heap[g]? = some (.cells cs 35 (0, 0)) ∧ cs.size = 12
def HoldsQ (W x : World) (v : Value) (p : Pu) : Prop := ∃ g A n c, v = .pointer (some ⟨g, 0, none⟩) ∧ W.heap.size ≤ g ∧ x.heap[g]? = some (.cells #[.int .u8 (p.nm.x0 : Int), .int .u8 (p.nm.x1 : Int), .int .u8 (p.nm.x2 : Int), .int .u8 (p.nm.x3 : Int), .int .u8 (p.nm.x4 : Int), .int .u8 (p.nm.x5 : Int), .int .u8 (p.nm.x6 : Int), .int .u8 (p.nm.x7 : Int), .int .i64 p.no, .int .i64 p.h0, .int .i64 p.h1, .slice A n c] 35 (0, 0)) ∧ x.ownsRow W.heap.size 56 11 (.slice A n c) n (flatH p.held)
def OwnQ (W x : World) (v : Value) (p : Pu) : Prop := ∃ A n c, v = .agg #[.int .u8 (p.nm.x0 : Int), .int .u8 (p.nm.x1 : Int), .int .u8 (p.nm.x2 : Int), .int .u8 (p.nm.x3 : Int), .int .u8 (p.nm.x4 : Int), .int .u8 (p.nm.x5 : Int), .int .u8 (p.nm.x6 : Int), .int .u8 (p.nm.x7 : Int), .int .i64 p.no, .int .i64 p.h0, .int .i64 p.h1, .slice A n c] ∧ x.ownsRow W.heap.size 56 11 (.slice A n c) n (flatH p.held)
section
variable {W x x' : World} {v v' : Value} {p : Pu}
theorem BoxQ.below (h : BoxQ W x v) (hb : Below x.heap.size x x') : BoxQ W x' v := by
  obtain ⟨g, cs, h1, h2, h3, h4⟩ := h
  exact ⟨g, cs, h1, h2, block_below h3 hb (block_lt h3), h4⟩
theorem HoldsQ.below (h : HoldsQ W x v p) (hb : Below x.heap.size x x') : HoldsQ W x' v p := by
  obtain ⟨g, A, n, c, h1, h2, h3, h4⟩ := h
  exact ⟨g, A, n, c, h1, h2, block_below h3 hb (block_lt h3), own_below h4 hb⟩
theorem OwnQ.below (h : OwnQ W x v p) (hb : Below x.heap.size x x') : OwnQ W x' v p := by
  obtain ⟨A, n, c, h1, h2⟩ := h
  exact ⟨A, n, c, h1, own_below h2 hb⟩
theorem BoxQ.new (h : W.heap.size ≤ x.heap.size) : BoxQ W (x.alloc (.cells #[.int .u8 0, .int .u8 0, .int .u8 0, .int .u8 0, .int .u8 0, .int .u8 0, .int .u8 0, .int .u8 0, .int .i64 0, .int .i64 0, .int .i64 0, .slice none 0 0] 35)) (.pointer (some ⟨x.heap.size, 0, none⟩)) := ⟨_, _, rfl, h, heap_alloc_new x _, rfl⟩
theorem box_newQ (h : BoxQ W x v) : (.pointer (some ⟨x.heap.size, 0, none⟩) : Value) ≠ v := by
  obtain ⟨g, cs, h1, h2, h3, h4⟩ := h
  intro e; rw [h1] at e; injection e with e; injection e with e; injection e with e
  have := block_lt h3; omega
theorem BoxQ.set (h : BoxQ W x v) {g : Nat} {cs' : Array Value} {T : TypeId} (hg : x.grownBy x' (some g)) (hG : x'.heap[g]? = some (.cells cs' T (0, 0))) (hc : cs'.size = 12) (hT : T = 35 := by rfl) : BoxQ W x' v := by
  obtain ⟨k, cs, h1, h2, h3, h4⟩ := h
  by_cases e : k = g
  · subst e; subst hT
    exact ⟨k, cs', h1, h2, hG, hc⟩
  · exact ⟨k, cs, h1, h2, (hg.block k (block_lt h3) (by intro e'; injection e' with e'; exact e e')).trans h3, h4⟩
theorem HoldsQ.set (h : HoldsQ W x v p) {g : Nat} {cs : Array Value} (hg : x.grownBy x' (some g)) (hG : x.heap[g]? = some (.cells cs 35 (0, 0))) (hne : v ≠ .pointer (some ⟨g, 0, none⟩)) : HoldsQ W x' v p := by
  obtain ⟨k, A, n, c, h1, h2, h3, h4⟩ := h
  have e : k ≠ g := fun e => hne (by rw [h1, e])
  exact ⟨k, A, n, c, h1, h2, (hg.block k (block_lt h3) (by intro e'; injection e' with e'; exact e e')).trans h3, h4.kept hg (.inr fun e => own_ne h4 hG (by decide) e.symm)⟩
theorem OwnQ.set (h : OwnQ W x v p) {g : Nat} {cs : Array Value} (hg : x.grownBy x' (some g)) (hG : x.heap[g]? = some (.cells cs 35 (0, 0))) : OwnQ W x' v p := by
  obtain ⟨A, n, c, h1, h4⟩ := h
  exact ⟨A, n, c, h1, h4.kept hg (.inr fun e => own_ne h4 hG (by decide) e.symm)⟩
theorem BoxQ.cells {g : Nat} {cs : Array Value} {T : TypeId} (hG : x.heap[g]? = some (.cells cs T (0, 0))) (hcs : cs.size = 12) : ∃ u0 u1 u2 u3 u4 u5 u6 u7 u8 u9 u10 u11, x.cell? ⟨g, 0, none⟩ = some u0 ∧ x.cell? ⟨g, 1, none⟩ = some u1 ∧ x.cell? ⟨g, 2, none⟩ = some u2 ∧ x.cell? ⟨g, 3, none⟩ = some u3 ∧ x.cell? ⟨g, 4, none⟩ = some u4 ∧ x.cell? ⟨g, 5, none⟩ = some u5 ∧ x.cell? ⟨g, 6, none⟩ = some u6 ∧ x.cell? ⟨g, 7, none⟩ = some u7 ∧ x.cell? ⟨g, 8, none⟩ = some u8 ∧ x.cell? ⟨g, 9, none⟩ = some u9 ∧ x.cell? ⟨g, 10, none⟩ = some u10 ∧ x.cell? ⟨g, 11, none⟩ = some u11 := by
  obtain ⟨l⟩ := cs
  match l, hcs with
  | [u0, u1, u2, u3, u4, u5, u6, u7, u8, u9, u10, u11], _ => exact ⟨u0, u1, u2, u3, u4, u5, u6, u7, u8, u9, u10, u11, block_cell hG 0, block_cell hG 1, block_cell hG 2, block_cell hG 3, block_cell hG 4, block_cell hG 5, block_cell hG 6, block_cell hG 7, block_cell hG 8, block_cell hG 9, block_cell hG 10, block_cell hG 11⟩
end
def OwnI (W : World) (X Y : Pu) (A A' : Option Addr) (n c n' c' : Nat) (a0 : Act) (L : Array Bool) (a : Act) (x : World) : Prop :=
  ∃ v24 v25 v26 v27 v7 v8 : Value, a = ((((((a0.put (some 24) v24).put (some 25) v25).put (some 26) v26).put (some 27) v27).put (some 7) v7).put (some 8) v8) ∧ Below W.heap.size W x ∧
    (L.getD 0 false = true → v24 = .agg #[.int .u8 (X.nm.x0 : Int), .int .u8 (X.nm.x1 : Int), .int .u8 (X.nm.x2 : Int), .int .u8 (X.nm.x3 : Int), .int .u8 (X.nm.x4 : Int), .int .u8 (X.nm.x5 : Int), .int .u8 (X.nm.x6 : Int), .int .u8 (X.nm.x7 : Int), .int .i64 X.no, .int .i64 X.h0, .int .i64 X.h1, .slice A n c]) ∧
    (L.getD 1 false = true → OwnQ W x v25 X) ∧
    (L.getD 2 false = true → v26 = .agg #[.int .u8 (Y.nm.x0 : Int), .int .u8 (Y.nm.x1 : Int), .int .u8 (Y.nm.x2 : Int), .int .u8 (Y.nm.x3 : Int), .int .u8 (Y.nm.x4 : Int), .int .u8 (Y.nm.x5 : Int), .int .u8 (Y.nm.x6 : Int), .int .u8 (Y.nm.x7 : Int), .int .i64 Y.no, .int .i64 Y.h0, .int .i64 Y.h1, .slice A' n' c']) ∧
    (L.getD 3 false = true → OwnQ W x v27 Y) ∧
    (L.getD 4 false = true → BoxQ W x v7) ∧
    (L.getD 5 false = true → BoxQ W x v8) ∧
    (L.getD 6 false = true → L.getD 4 false = true ∧ HoldsQ W x v7 X) ∧
    (L.getD 7 false = true → L.getD 5 false = true ∧ HoldsQ W x v8 Y) ∧
    (L.getD 4 false = true → L.getD 5 false = true → v7 ≠ v8)
theorem ownI_start {W : World} {X Y : Pu} {A A' : Option Addr} {n c n' c' : Nat} {a0 : Act} {m : Nat} {x : World} (h : a0 = ((((((a0.put (some 24) undef).put (some 25) undef).put (some 26) undef).put (some 27) undef).put (some 7) undef).put (some 8) undef)) (hb : Below W.heap.size W x) : OwnI W X Y A A' n c n' c' a0 (Array.replicate m false) a0 x :=
  ⟨undef, undef, undef, undef, undef, undef, h, hb, by simp only [none_yet]; simp⟩
theorem ownI_mk {W : World} {X Y : Pu} {A A' : Option Addr} {n c n' c' : Nat} {a0 : Act} {L : Array Bool} {a : Act} {x : World} (v24 v25 v26 v27 v7 v8 : Value) (h : a = ((((((a0.put (some 24) v24).put (some 25) v25).put (some 26) v26).put (some 27) v27).put (some 7) v7).put (some 8) v8)) (hb : Below W.heap.size W x) (c0 : L.getD 0 false = true → v24 = .agg #[.int .u8 (X.nm.x0 : Int), .int .u8 (X.nm.x1 : Int), .int .u8 (X.nm.x2 : Int), .int .u8 (X.nm.x3 : Int), .int .u8 (X.nm.x4 : Int), .int .u8 (X.nm.x5 : Int), .int .u8 (X.nm.x6 : Int), .int .u8 (X.nm.x7 : Int), .int .i64 X.no, .int .i64 X.h0, .int .i64 X.h1, .slice A n c]) (c1 : L.getD 1 false = true → OwnQ W x v25 X) (c2 : L.getD 2 false = true → v26 = .agg #[.int .u8 (Y.nm.x0 : Int), .int .u8 (Y.nm.x1 : Int), .int .u8 (Y.nm.x2 : Int), .int .u8 (Y.nm.x3 : Int), .int .u8 (Y.nm.x4 : Int), .int .u8 (Y.nm.x5 : Int), .int .u8 (Y.nm.x6 : Int), .int .u8 (Y.nm.x7 : Int), .int .i64 Y.no, .int .i64 Y.h0, .int .i64 Y.h1, .slice A' n' c']) (c3 : L.getD 3 false = true → OwnQ W x v27 Y) (c4 : L.getD 4 false = true → BoxQ W x v7) (c5 : L.getD 5 false = true → BoxQ W x v8) (c6 : L.getD 6 false = true → L.getD 4 false = true ∧ HoldsQ W x v7 X) (c7 : L.getD 7 false = true → L.getD 5 false = true ∧ HoldsQ W x v8 Y) (e4x5 : L.getD 4 false = true → L.getD 5 false = true → v7 ≠ v8) : OwnI W X Y A A' n c n' c' a0 L a x :=
  ⟨v24, v25, v26, v27, v7, v8, h, hb, c0, c1, c2, c3, c4, c5, c6, c7, e4x5⟩
end Go.Proofs.Ythjpaclcoipocaa
