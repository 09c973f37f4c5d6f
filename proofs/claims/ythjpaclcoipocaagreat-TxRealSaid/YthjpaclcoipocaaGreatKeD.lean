/- Digests in rows, plainly. Nothing of the program stands in it, so there is no condition. -/
import Derived.Test.YthjpaclcoipocaaGreatJoinB
import Derived.Test.YthjpaclcoipocaaGreatAppend
namespace Go.Proofs.YthjpaclcoipocaaGreat
open Go.RowKit Go.Lib
def D8.cells (d : D8) : List Value := [.int .u8 (d.x0 : Int), .int .u8 (d.x1 : Int), .int .u8 (d.x2 : Int), .int .u8 (d.x3 : Int), .int .u8 (d.x4 : Int), .int .u8 (d.x5 : Int), .int .u8 (d.x6 : Int), .int .u8 (d.x7 : Int)]
def flatD (l : List D8) : List Value := l.flatMap D8.cells
def D8.zero : D8 := ⟨0, 0, 0, 0, 0, 0, 0, 0⟩
theorem D8.zero_ok : D8.zero.ok := by unfold D8.ok D8.zero; simp
theorem flatD_len (l : List D8) : (flatD l).length = l.length * 8 := by
  induction l with
  | nil => rfl
  | cons i l ih =>
    have : flatD (i :: l) = i.cells ++ flatD l := by simp [flatD]
    rw [this, List.length_append, ih]; simp [D8.cells]; omega
theorem flatD_append (l m : List D8) : flatD (l ++ m) = flatD l ++ flatD m := by simp [flatD]
theorem flatD_at : ∀ (l : List D8) (k j : Nat), k < l.length → j < 8 → (flatD l)[k * 8 + j]? = (l.getD k D8.zero).cells[j]?
  | [], k, _, h, _ => by simp at h
  | i :: l, k, j, h, hj => by
    have e : flatD (i :: l) = i.cells ++ flatD l := by simp [flatD]
    have hc : i.cells.length = 8 := rfl
    rw [e]
    cases k with
    | zero => rw [List.getElem?_append_left (by omega)]; simp
    | succ k =>
      rw [List.getElem?_append_right (by omega), hc, show (k + 1) * 8 + j - 8 = k * 8 + j from by omega]
      have := flatD_at l k j (by simpa using h) hj
      simpa using this
theorem Rd.dlenD {w : World} {B n : Nat} {A : Option Addr} {l : List D8} (h : Rd w B 8 A n (flatD l)) : l.length = n := by have := h.1; rw [flatD_len] at this; omega
theorem Rd.di {w : World} {B n : Nat} {A : Option Addr} {l : List D8} (h : Rd w B 8 A n (flatD l)) {k : Nat} (hk : k < n) :
    ∃ b o, A = some ⟨b, o, none⟩ ∧ b < B ∧ ∀ j, j < 8 → w.cell? ⟨b, o + k * 8 + j, none⟩ = (l.getD k D8.zero).cells[j]? := by
  have hl := h.dlenD
  obtain ⟨b, o, e, hb, hc⟩ := h.2 (by omega)
  refine ⟨b, o, e, hb, fun j hj => ?_⟩
  have hs : ∃ u, (l.getD k D8.zero).cells[j]? = some u := ⟨_, List.getElem?_eq_getElem (by simpa [D8.cells] using hj)⟩
  obtain ⟨u, hu⟩ := hs
  rw [hu, Nat.add_assoc]
  exact hc (k * 8 + j) u ((flatD_at l k j (by omega) hj).trans hu)
/-- The same, cell by cell. -/
theorem Rd.di8 {w : World} {B n : Nat} {A : Option Addr} {l : List D8} (h : Rd w B 8 A n (flatD l)) {k : Nat} (hk : k < n) :
    ∃ b o, A = some ⟨b, o, none⟩ ∧ b < B ∧ w.cell? ⟨b, o + k * 8, none⟩ = some (.int .u8 ((l.getD k D8.zero).x0 : Int)) ∧ w.cell? ⟨b, o + k * 8 + 1, none⟩ = some (.int .u8 ((l.getD k D8.zero).x1 : Int)) ∧ w.cell? ⟨b, o + k * 8 + 2, none⟩ = some (.int .u8 ((l.getD k D8.zero).x2 : Int)) ∧ w.cell? ⟨b, o + k * 8 + 3, none⟩ = some (.int .u8 ((l.getD k D8.zero).x3 : Int)) ∧ w.cell? ⟨b, o + k * 8 + 4, none⟩ = some (.int .u8 ((l.getD k D8.zero).x4 : Int)) ∧ w.cell? ⟨b, o + k * 8 + 5, none⟩ = some (.int .u8 ((l.getD k D8.zero).x5 : Int)) ∧ w.cell? ⟨b, o + k * 8 + 6, none⟩ = some (.int .u8 ((l.getD k D8.zero).x6 : Int)) ∧ w.cell? ⟨b, o + k * 8 + 7, none⟩ = some (.int .u8 ((l.getD k D8.zero).x7 : Int)) := by
  obtain ⟨b, o, e, hb, x⟩ := h.di hk
  exact ⟨b, o, e, hb, x 0 (by decide), x 1 (by decide), x 2 (by decide), x 3 (by decide), x 4 (by decide), x 5 (by decide), x 6 (by decide), x 7 (by decide)⟩
theorem getD_ok {l : List D8} (h : ∀ d ∈ l, d.ok) (k : Nat) : (l.getD k D8.zero).ok := by
  rw [List.getD_eq_getElem?_getD]
  rcases hk : l[k]? with _ | x
  · exact D8.zero_ok
  · exact h x (List.mem_of_getElem? hk)
theorem hs_ok (s : Hs) : s.out.ok := D8.of_ok _
/-- Numbers of digests taken in, one by one. -/
def Hs.takeAll (s : Hs) (l : List D8) : Hs := l.foldl (fun s d => s.take (d.num : Int)) s
theorem takeAll_snoc (s : Hs) (l : List D8) {k : Nat} (hk : k < l.length) : s.takeAll (l.take (k + 1)) = (s.takeAll (l.take k)).take ((l.getD k D8.zero).num : Int) := by
  unfold Hs.takeAll
  rw [List.take_add_one, List.getElem?_eq_getElem hk, List.foldl_append]
  simp [List.getD_eq_getElem?_getD, List.getElem?_eq_getElem hk]
def hashMany (l : List D8) : D8 := (((Hs.begin 5).takeAll l).take (l.length : Int)).out
/-- One, so often. -/
def chainD (d : D8) : Nat → D8
  | 0 => d
  | k + 1 => hashOne (chainD d k)
theorem chainD_ok {d : D8} (h : d.ok) : ∀ n, (chainD d n).ok
  | 0 => h
  | _ + 1 => hs_ok _
/-- Three new blocks. -/
theorem alloc3 (w : World) (x y z : Obj) : (((w.alloc x).alloc y).alloc z).heap[w.heap.size]? = some x ∧ (((w.alloc x).alloc y).alloc z).heap[w.heap.size + 1]? = some y ∧ (((w.alloc x).alloc y).alloc z).heap[w.heap.size + 2]? = some z ∧ Below w.heap.size w (((w.alloc x).alloc y).alloc z) ∧ (((w.alloc x).alloc y).alloc z).heap.size = w.heap.size + 3 := by
  have h1 := heap_alloc_new w x
  have h2 := heap_alloc_new (w.alloc x) y
  have h3 := heap_alloc_new ((w.alloc x).alloc y) z
  rw [World.size_alloc] at h2
  rw [World.size_alloc, World.size_alloc] at h3
  refine ⟨block_alloc (block_alloc h1 _) _, block_alloc h2 _, h3, (((Below.refl _ _).alloc (Nat.le_refl _) _).alloc (by simp) _).alloc (by simp; omega) _, by simp⟩
theorem alloc2 (w : World) (x y : Obj) : ((w.alloc x).alloc y).heap[w.heap.size]? = some x ∧ ((w.alloc x).alloc y).heap[w.heap.size + 1]? = some y ∧ Below w.heap.size w ((w.alloc x).alloc y) ∧ ((w.alloc x).alloc y).heap.size = w.heap.size + 2 := by
  have h1 := heap_alloc_new w x
  have h2 := heap_alloc_new (w.alloc x) y
  rw [World.size_alloc] at h2
  exact ⟨block_alloc h1 _, h2, ((Below.refl _ _).alloc (Nat.le_refl _) _).alloc (by simp) _, by simp⟩
end Go.Proofs.YthjpaclcoipocaaGreat
