/- Boxes that a region makes (layer 47's Pays law): words and the region's invariant. Nothing of the program stands in it but its tables, so there is no condition. -/
import Derived.Test.YtjiecnoplnaahaaInv
import Derived.Test.YtjiecnoplnaahaaPuD
namespace Go.Proofs.Ytjiecnoplnaahaa
open Go.RowKit Go.Lib

def agg3 (r : Int × Int × Int) : Value := .agg #[.int .i64 r.1, .int .i64 r.2.1, .int .i64 r.2.2]
theorem listed_in {L : Array Bool} {i k : Nat} (h : L.getD k false = true) : (L.setIfInBounds i true).getD k false = true := getD_set_true h
theorem yet_no {L : Array Bool} {k : Nat} (h0 : L.getD k true = false) : ¬ L.getD k false = true := by
  intro h
  rcases Nat.lt_or_ge k L.size with h' | h'
  · rw [getD_in h' false true, h0] at h; cases h
  · rw [Array.getD_eq_getD_getElem?, Array.getElem?_eq_none h'] at h0; cases h0
/-- A box of three cells that the region made. -/
def BoxP (W x : World) (v : Value) : Prop := ∃ g cs, v = .pointer (some ⟨g, 0, none⟩) ∧ W.heap.size ≤ g ∧ x.heap[g]? = some (.cells cs 34 (0, 0)) ∧ cs.size = 3
def HoldsP (W x : World) (v : Value) (r : Int × Int × Int) : Prop := ∃ g, v = .pointer (some ⟨g, 0, none⟩) ∧ W.heap.size ≤ g ∧ x.heap[g]? = some (.cells #[.int .i64 r.1, .int .i64 r.2.1, .int .i64 r.2.2] 34 (0, 0))
section
variable {W x x' : World} {v v' : Value} {r : Int × Int × Int}
theorem BoxP.below (h : BoxP W x v) (hb : Below x.heap.size x x') : BoxP W x' v := by
  obtain ⟨g, cs, h1, h2, h3, h4⟩ := h
  exact ⟨g, cs, h1, h2, block_below h3 hb (block_lt h3), h4⟩
theorem HoldsP.below (h : HoldsP W x v r) (hb : Below x.heap.size x x') : HoldsP W x' v r := by
  obtain ⟨g, h1, h2, h3⟩ := h
  exact ⟨g, h1, h2, block_below h3 hb (block_lt h3)⟩
theorem BoxP.alloc (h : BoxP W x v) (o : Obj) : BoxP W (x.alloc o) v := h.below (below_one x o)
theorem HoldsP.alloc (h : HoldsP W x v r) (o : Obj) : HoldsP W (x.alloc o) v r := h.below (below_one x o)
theorem BoxP.new (h : W.heap.size ≤ x.heap.size) : BoxP W (x.alloc (.cells #[.int .i64 0, .int .i64 0, .int .i64 0] 34)) (.pointer (some ⟨x.heap.size, 0, none⟩)) := ⟨_, _, rfl, h, heap_alloc_new x _, rfl⟩
theorem box_new (h : BoxP W x v) : (.pointer (some ⟨x.heap.size, 0, none⟩) : Value) ≠ v := by
  obtain ⟨g, cs, h1, h2, h3, h4⟩ := h
  intro e; rw [h1] at e; injection e with e; injection e with e; injection e with e
  have := block_lt h3; omega
theorem set3 {g : Nat} {cs : Array Value} {T : TypeId} (hG : x.heap[g]? = some (.cells cs T (0, 0))) (hcs : cs.size = 3) (a b d : Value) :
    (((x.setCell ⟨g, 0, none⟩ a).setCell ⟨g, 1, none⟩ b).setCell ⟨g, 2, none⟩ d).heap[g]? = some (.cells #[a, b, d] T (0, 0)) := by
  have h1 := Joins.block_setCell (i := 0) hG a
  have h2 := Joins.block_setCell (i := 1) h1 b
  have h3 := Joins.block_setCell (i := 2) h2 d
  rw [h3]
  obtain ⟨l⟩ := cs
  match l, hcs with
  | [_, _, _], _ => rfl
theorem set3_other {g k : Nat} (h : k ≠ g) (a b d : Value) : (((x.setCell ⟨g, 0, none⟩ a).setCell ⟨g, 1, none⟩ b).setCell ⟨g, 2, none⟩ d).heap[k]? = x.heap[k]? := by
  rw [Below.heap_setCell _ _ _ _ (by show k ≠ g; exact h), Below.heap_setCell _ _ _ _ (by show k ≠ g; exact h), Below.heap_setCell _ _ _ _ (by show k ≠ g; exact h)]
theorem BoxP.set (h : BoxP W x v) (g : Nat) (a b d : Value) : BoxP W (((x.setCell ⟨g, 0, none⟩ a).setCell ⟨g, 1, none⟩ b).setCell ⟨g, 2, none⟩ d) v := by
  obtain ⟨k, cs, h1, h2, h3, h4⟩ := h
  by_cases e : k = g
  · subst e
    exact ⟨k, _, h1, h2, set3 h3 h4 a b d, rfl⟩
  · exact ⟨k, cs, h1, h2, (set3_other e a b d).trans h3, h4⟩
theorem HoldsP.set (h : HoldsP W x v r) (g : Nat) (a b d : Value) (hne : v ≠ .pointer (some ⟨g, 0, none⟩)) : HoldsP W (((x.setCell ⟨g, 0, none⟩ a).setCell ⟨g, 1, none⟩ b).setCell ⟨g, 2, none⟩ d) v r := by
  obtain ⟨k, h1, h2, h3⟩ := h
  have e : k ≠ g := fun e => hne (by rw [h1, e])
  exact ⟨k, h1, h2, (set3_other e a b d).trans h3⟩
theorem HoldsP.new {g : Nat} {cs : Array Value} (hg : W.heap.size ≤ g) (hG : x.heap[g]? = some (.cells cs 34 (0, 0))) (hcs : cs.size = 3) (r : Int × Int × Int) :
    HoldsP W (((x.setCell ⟨g, 0, none⟩ (.int .i64 r.1)).setCell ⟨g, 1, none⟩ (.int .i64 r.2.1)).setCell ⟨g, 2, none⟩ (.int .i64 r.2.2)) (.pointer (some ⟨g, 0, none⟩)) r := ⟨g, rfl, hg, set3 hG hcs _ _ _⟩
theorem BoxP.cells {g : Nat} {cs : Array Value} {T : TypeId} (hG : x.heap[g]? = some (.cells cs T (0, 0))) (hcs : cs.size = 3) : ∃ u0 u1 u2, x.cell? ⟨g, 0, none⟩ = some u0 ∧ x.cell? ⟨g, 1, none⟩ = some u1 ∧ x.cell? ⟨g, 2, none⟩ = some u2 := by
  obtain ⟨l⟩ := cs
  match l, hcs with
  | [u0, u1, u2], _ => exact ⟨u0, u1, u2, block_cell hG 0, block_cell hG 1, block_cell hG 2⟩
end
def PaysI (W : World) (p : Pu) (A : Option Addr) (n c : Nat) (now later : Int) (ra rb rc : Int × Int × Int) (a0 : Act) (L : Array Bool) (a : Act) (x : World) : Prop :=
  ∃ v21 v22 v23 v24 v25 v26 v27 v28 v8 v9 v10 : Value, a = (((((((((((a0.put (some 21) v21).put (some 22) v22).put (some 23) v23).put (some 24) v24).put (some 25) v25).put (some 26) v26).put (some 27) v27).put (some 28) v28).put (some 8) v8).put (some 9) v9).put (some 10) v10) ∧ Below W.heap.size W x ∧
    (L.getD 0 false = true → v21 = .agg #[.int .u8 (p.nm.x0 : Int), .int .u8 (p.nm.x1 : Int), .int .u8 (p.nm.x2 : Int), .int .u8 (p.nm.x3 : Int), .int .u8 (p.nm.x4 : Int), .int .u8 (p.nm.x5 : Int), .int .u8 (p.nm.x6 : Int), .int .u8 (p.nm.x7 : Int), .int .i64 p.no, .int .i64 p.h0, .int .i64 p.h1, .slice A n c]) ∧
    (L.getD 1 false = true → v22 = .int .i64 now) ∧
    (L.getD 2 false = true → v23 = agg3 ra) ∧
    (L.getD 3 false = true → v24 = .agg #[.int .u8 (p.nm.x0 : Int), .int .u8 (p.nm.x1 : Int), .int .u8 (p.nm.x2 : Int), .int .u8 (p.nm.x3 : Int), .int .u8 (p.nm.x4 : Int), .int .u8 (p.nm.x5 : Int), .int .u8 (p.nm.x6 : Int), .int .u8 (p.nm.x7 : Int), .int .i64 p.no, .int .i64 p.h0, .int .i64 p.h1, .slice A n c]) ∧
    (L.getD 4 false = true → v25 = .int .i64 later) ∧
    (L.getD 5 false = true → v26 = agg3 rb) ∧
    (L.getD 6 false = true → v27 = .agg #[.int .u8 (p.nm.x0 : Int), .int .u8 (p.nm.x1 : Int), .int .u8 (p.nm.x2 : Int), .int .u8 (p.nm.x3 : Int), .int .u8 (p.nm.x4 : Int), .int .u8 (p.nm.x5 : Int), .int .u8 (p.nm.x6 : Int), .int .u8 (p.nm.x7 : Int), .int .i64 p.no, .int .i64 p.h0, .int .i64 p.h1, .slice A n c]) ∧
    (L.getD 7 false = true → v28 = agg3 rc) ∧
    (L.getD 8 false = true → BoxP W x v8) ∧
    (L.getD 9 false = true → BoxP W x v9) ∧
    (L.getD 10 false = true → BoxP W x v10) ∧
    (L.getD 11 false = true → L.getD 8 false = true ∧ HoldsP W x v8 ra) ∧
    (L.getD 12 false = true → L.getD 9 false = true ∧ HoldsP W x v9 rb) ∧
    (L.getD 13 false = true → L.getD 10 false = true ∧ HoldsP W x v10 rc) ∧
    (L.getD 8 false = true → L.getD 9 false = true → v8 ≠ v9) ∧ (L.getD 8 false = true → L.getD 10 false = true → v8 ≠ v10) ∧ (L.getD 9 false = true → L.getD 10 false = true → v9 ≠ v10)
theorem paysI_start {W : World} {p : Pu} {A : Option Addr} {n c : Nat} {now later : Int} {ra rb rc : Int × Int × Int} {a0 : Act} {m : Nat} {x : World} (h : a0 = (((((((((((a0.put (some 21) undef).put (some 22) undef).put (some 23) undef).put (some 24) undef).put (some 25) undef).put (some 26) undef).put (some 27) undef).put (some 28) undef).put (some 8) undef).put (some 9) undef).put (some 10) undef)) (hb : Below W.heap.size W x) : PaysI W p A n c now later ra rb rc a0 (Array.replicate m false) a0 x :=
  ⟨undef, undef, undef, undef, undef, undef, undef, undef, undef, undef, undef, h, hb, by simp only [none_yet]; simp⟩
theorem paysI_mk {W : World} {p : Pu} {A : Option Addr} {n c : Nat} {now later : Int} {ra rb rc : Int × Int × Int} {a0 : Act} {L : Array Bool} {a : Act} {x : World} (v21 v22 v23 v24 v25 v26 v27 v28 v8 v9 v10 : Value) (h : a = (((((((((((a0.put (some 21) v21).put (some 22) v22).put (some 23) v23).put (some 24) v24).put (some 25) v25).put (some 26) v26).put (some 27) v27).put (some 28) v28).put (some 8) v8).put (some 9) v9).put (some 10) v10)) (hb : Below W.heap.size W x) (c0 : L.getD 0 false = true → v21 = .agg #[.int .u8 (p.nm.x0 : Int), .int .u8 (p.nm.x1 : Int), .int .u8 (p.nm.x2 : Int), .int .u8 (p.nm.x3 : Int), .int .u8 (p.nm.x4 : Int), .int .u8 (p.nm.x5 : Int), .int .u8 (p.nm.x6 : Int), .int .u8 (p.nm.x7 : Int), .int .i64 p.no, .int .i64 p.h0, .int .i64 p.h1, .slice A n c]) (c1 : L.getD 1 false = true → v22 = .int .i64 now) (c2 : L.getD 2 false = true → v23 = agg3 ra) (c3 : L.getD 3 false = true → v24 = .agg #[.int .u8 (p.nm.x0 : Int), .int .u8 (p.nm.x1 : Int), .int .u8 (p.nm.x2 : Int), .int .u8 (p.nm.x3 : Int), .int .u8 (p.nm.x4 : Int), .int .u8 (p.nm.x5 : Int), .int .u8 (p.nm.x6 : Int), .int .u8 (p.nm.x7 : Int), .int .i64 p.no, .int .i64 p.h0, .int .i64 p.h1, .slice A n c]) (c4 : L.getD 4 false = true → v25 = .int .i64 later) (c5 : L.getD 5 false = true → v26 = agg3 rb) (c6 : L.getD 6 false = true → v27 = .agg #[.int .u8 (p.nm.x0 : Int), .int .u8 (p.nm.x1 : Int), .int .u8 (p.nm.x2 : Int), .int .u8 (p.nm.x3 : Int), .int .u8 (p.nm.x4 : Int), .int .u8 (p.nm.x5 : Int), .int .u8 (p.nm.x6 : Int), .int .u8 (p.nm.x7 : Int), .int .i64 p.no, .int .i64 p.h0, .int .i64 p.h1, .slice A n c]) (c7 : L.getD 7 false = true → v28 = agg3 rc) (c8 : L.getD 8 false = true → BoxP W x v8) (c9 : L.getD 9 false = true → BoxP W x v9) (c10 : L.getD 10 false = true → BoxP W x v10) (c11 : L.getD 11 false = true → L.getD 8 false = true ∧ HoldsP W x v8 ra) (c12 : L.getD 12 false = true → L.getD 9 false = true ∧ HoldsP W x v9 rb) (c13 : L.getD 13 false = true → L.getD 10 false = true ∧ HoldsP W x v10 rc) (e8x9 : L.getD 8 false = true → L.getD 9 false = true → v8 ≠ v9) (e8x10 : L.getD 8 false = true → L.getD 10 false = true → v8 ≠ v10) (e9x10 : L.getD 9 false = true → L.getD 10 false = true → v9 ≠ v10) : PaysI W p A n c now later ra rb rc a0 L a x :=
  ⟨v21, v22, v23, v24, v25, v26, v27, v28, v8, v9, v10, h, hb, c0, c1, c2, c3, c4, c5, c6, c7, c8, c9, c10, c11, c12, c13, e8x9, e8x10, e9x10⟩
end Go.Proofs.Ytjiecnoplnaahaa
