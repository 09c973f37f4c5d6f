/- The hash of bytes, plainly: states that take in eights. No condition. -/
import Derived.Test.YtmpklplojfjfbaaHsC
import Derived.Test.YtmpklplojfjfbaaDig
import Derived.Test.YtmpklplojfjfbaaRanges
import Derived.OpenShut
namespace Go.Proofs.Ytmpklplojfjfbaa
open Go.RowKit Go.Lib
/-- The k-th eight of bytes, zeros behind them. -/
def chunk (l : List Nat) (k : Nat) : D8 := ⟨l.getD (8 * k) 0, l.getD (8 * k + 1) 0, l.getD (8 * k + 2) 0, l.getD (8 * k + 3) 0, l.getD (8 * k + 4) 0, l.getD (8 * k + 5) 0, l.getD (8 * k + 6) 0, l.getD (8 * k + 7) 0⟩
def Hs.eat (s : Hs) (l : List Nat) : Nat → Hs
  | 0 => s
  | k + 1 => (s.eat l k).take ((chunk l k).num : Int)
def Hs.bytes (s : Hs) (l : List Nat) : Hs := (s.eat (l ++ [1]) (l.length / 8 + 1)).take (l.length : Int)
def Hs.mix (s : Hs) : Nat := (bits .xor .u64 s.a s.c).toNat
def Hs.out (s : Hs) : D8 := D8.of s.mix
def hashOf (l : List Nat) : D8 := ((Hs.begin 1).bytes l).out
def hashOne (d : D8) : D8 := ((Hs.begin 2).take (d.num : Int)).out
def hashTwo (a b : D8) : D8 := (((Hs.begin 3).take (a.num : Int)).take (b.num : Int)).out
def hashWord (d : D8) (l : List Nat) : D8 := (((Hs.begin 4).take (d.num : Int)).bytes l).out
theorem mix_int (s : Hs) : bits .xor .u64 s.a s.c = (s.mix : Int) := by
  have := wf_u64 (wf_bits .xor .u64 s.a s.c)
  unfold Hs.mix; omega
theorem mix_lt (s : Hs) : s.mix < 18446744073709551616 := by
  have := wf_u64 (wf_bits .xor .u64 s.a s.c)
  unfold Hs.mix; omega
theorem getD_lt {l : List Nat} (h : ∀ x ∈ l, x < 256) (k : Nat) : l.getD k 0 < 256 := by
  rw [List.getD_eq_getElem?_getD]
  rcases hk : l[k]? with _ | x
  · simp
  · simpa using h x (List.mem_of_getElem? hk)
theorem chunk_ok {l : List Nat} (h : ∀ x ∈ l, x < 256) (k : Nat) : (chunk l k).ok :=
  ⟨getD_lt h _, getD_lt h _, getD_lt h _, getD_lt h _, getD_lt h _, getD_lt h _, getD_lt h _, getD_lt h _⟩
theorem snoc_ok {l : List Nat} (h : ∀ x ∈ l, x < 256) : ∀ x ∈ l ++ [1], x < 256 := by
  intro x hx
  rcases List.mem_append.1 hx with h1 | h1
  · exact h x h1
  · simp at h1; omega
theorem getD_front (l m : List Nat) {k : Nat} (h : k < l.length) : (l ++ m).getD k 0 = l.getD k 0 := by
  rw [List.getD_eq_getElem?_getD, List.getD_eq_getElem?_getD, List.getElem?_append_left h]
theorem chunk_front (l m : List Nat) {k : Nat} (h : 8 * k + 8 ≤ l.length) : chunk (l ++ m) k = chunk l k := by
  unfold chunk
  rw [getD_front _ _ (by omega), getD_front _ _ (by omega), getD_front _ _ (by omega), getD_front _ _ (by omega), getD_front _ _ (by omega), getD_front _ _ (by omega), getD_front _ _ (by omega), getD_front _ _ (by omega)]
theorem eat_front (s : Hs) (l m : List Nat) : ∀ k, 8 * k ≤ l.length → s.eat (l ++ m) k = s.eat l k
  | 0, _ => rfl
  | k + 1, h => by
    show (s.eat (l ++ m) k).take _ = (s.eat l k).take _
    rw [eat_front s l m k (by omega), chunk_front l m (by omega)]
/-- Zeros behind bytes change no eight. -/
theorem getD_zeros (l : List Nat) (n k : Nat) : (l ++ List.replicate n 0).getD k 0 = l.getD k 0 := by
  rw [List.getD_eq_getElem?_getD, List.getD_eq_getElem?_getD]
  by_cases h : k < l.length
  · rw [List.getElem?_append_left h]
  · rw [List.getElem?_append_right (by omega), List.getElem?_replicate, List.getElem?_eq_none (by omega)]
    split <;> rfl
theorem chunk_zeros (l : List Nat) (n k : Nat) : chunk (l ++ List.replicate n 0) k = chunk l k := by
  unfold chunk; simp only [getD_zeros]
theorem eat_zeros (s : Hs) (l : List Nat) (n : Nat) : ∀ k, s.eat (l ++ List.replicate n 0) k = s.eat l k
  | 0 => rfl
  | k + 1 => by
    show (s.eat _ k).take _ = (s.eat l k).take _
    rw [eat_zeros s l n k, chunk_zeros]
/-- A digest's bytes as cells. -/
def D8.cs (d : D8) : List Value := [.int .u8 (d.x0 : Int), .int .u8 (d.x1 : Int), .int .u8 (d.x2 : Int), .int .u8 (d.x3 : Int), .int .u8 (d.x4 : Int), .int .u8 (d.x5 : Int), .int .u8 (d.x6 : Int), .int .u8 (d.x7 : Int)]
def D8.bytes (d : D8) : List Nat := [d.x0, d.x1, d.x2, d.x3, d.x4, d.x5, d.x6, d.x7]
theorem D8.bytes_lt {d : D8} (h : d.ok) : ∀ x ∈ d.bytes, x < 256 := by
  obtain ⟨h0, h1, h2, h3, h4, h5, h6, h7⟩ := h
  unfold D8.bytes
  intro x hx
  simp only [List.mem_cons, List.not_mem_nil, or_false] at hx
  rcases hx with rfl | rfl | rfl | rfl | rfl | rfl | rfl | rfl <;> assumption
theorem tail_cells0 (t : List Nat) (ht : t.length < 8) : ((t.map fun (x : Nat) => Value.int .u8 (x : Int)) ++ (List.replicate 8 (Value.int .u8 0)).drop t.length).set t.length (.int .u8 1) = (chunk (t ++ [1]) 0).cs := by
  rcases t with _ | ⟨x0, _ | ⟨x1, _ | ⟨x2, _ | ⟨x3, _ | ⟨x4, _ | ⟨x5, _ | ⟨x6, _ | ⟨x7, t⟩⟩⟩⟩⟩⟩⟩⟩ <;> first | rfl | (simp at ht; omega)
theorem getD_drop (l : List Nat) (n k : Nat) : (l.drop n).getD k 0 = l.getD (n + k) 0 := by
  rw [List.getD_eq_getElem?_getD, List.getD_eq_getElem?_getD, List.getElem?_drop]
theorem chunk_drop (l : List Nat) (q : Nat) : chunk (l.drop (8 * q)) 0 = chunk l q := by
  unfold chunk
  simp only [getD_drop]
  rfl
theorem tail_cells (l : List Nat) : (((l.drop (8 * (l.length / 8))).map fun (x : Nat) => Value.int .u8 (x : Int)) ++ (List.replicate 8 (Value.int .u8 0)).drop (l.drop (8 * (l.length / 8))).length).set (l.drop (8 * (l.length / 8))).length (.int .u8 1) = (chunk (l ++ [1]) (l.length / 8)).cs := by
  rw [tail_cells0 _ (by rw [List.length_drop]; omega), ← chunk_drop (l ++ [1]) (l.length / 8), List.drop_append_of_le_length (by omega)]
theorem set4 {w : World} {g : Nat} {T : TypeId} {c0 c1 c2 c3 : Value} (h : w.heap[g]? = some (.cells #[c0, c1, c2, c3] T (0, 0))) (v0 v1 v2 v3 : Value) :
    ((((w.setCell ⟨g, 0, none⟩ v0).setCell ⟨g, 1, none⟩ v1).setCell ⟨g, 2, none⟩ v2).setCell ⟨g, 3, none⟩ v3).heap[g]? = some (.cells #[v0, v1, v2, v3] T (0, 0)) := by
  have h1 := Joins.block_setCell (i := 0) h v0
  have h2 := Joins.block_setCell (i := 1) h1 v1
  have h3 := Joins.block_setCell (i := 2) h2 v2
  have h4 := Joins.block_setCell (i := 3) h3 v3
  simpa using h4
theorem free4 {w : World} {g : Nat} {T : TypeId} {c0 c1 c2 c3 : Value} (h : w.heap[g]? = some (.cells #[c0, c1, c2, c3] T (0, 0))) :
    (∀ j, w.frozen? ⟨g, j, none⟩ = false) ∧ w.cell? ⟨g, 0, none⟩ = some c0 ∧ w.cell? ⟨g, 1, none⟩ = some c1 ∧ w.cell? ⟨g, 2, none⟩ = some c2 ∧ w.cell? ⟨g, 3, none⟩ = some c3 :=
  ⟨block_free h, by simpa using block_cell h 0, by simpa using block_cell h 1, by simpa using block_cell h 2, by simpa using block_cell h 3⟩
theorem set8 {w : World} {g : Nat} {T : TypeId} {c0 c1 c2 c3 c4 c5 c6 c7 : Value} (h : w.heap[g]? = some (.cells #[c0, c1, c2, c3, c4, c5, c6, c7] T (0, 0))) (v0 v1 v2 v3 v4 v5 v6 v7 : Value) :
    ((((((((w.setCell ⟨g, 0, none⟩ v0).setCell ⟨g, 1, none⟩ v1).setCell ⟨g, 2, none⟩ v2).setCell ⟨g, 3, none⟩ v3).setCell ⟨g, 4, none⟩ v4).setCell ⟨g, 5, none⟩ v5).setCell ⟨g, 6, none⟩ v6).setCell ⟨g, 7, none⟩ v7).heap[g]? = some (.cells #[v0, v1, v2, v3, v4, v5, v6, v7] T (0, 0)) := by
  have h1 := Joins.block_setCell (i := 0) h v0
  have h2 := Joins.block_setCell (i := 1) h1 v1
  have h3 := Joins.block_setCell (i := 2) h2 v2
  have h4 := Joins.block_setCell (i := 3) h3 v3
  have h5 := Joins.block_setCell (i := 4) h4 v4
  have h6 := Joins.block_setCell (i := 5) h5 v5
  have h7 := Joins.block_setCell (i := 6) h6 v6
  have h8 := Joins.block_setCell (i := 7) h7 v7
  simpa using h8
theorem grown_set8 (w : World) (g : Nat) (v0 v1 v2 v3 v4 v5 v6 v7 : Value) :
    w.grownBy ((((((((w.setCell ⟨g, 0, none⟩ v0).setCell ⟨g, 1, none⟩ v1).setCell ⟨g, 2, none⟩ v2).setCell ⟨g, 3, none⟩ v3).setCell ⟨g, 4, none⟩ v4).setCell ⟨g, 5, none⟩ v5).setCell ⟨g, 6, none⟩ v6).setCell ⟨g, 7, none⟩ v7) (some g) :=
  (((((((grown_set1 w g 0 v0).trans (grown_set1 _ g 1 v1)).trans (grown_set1 _ g 2 v2)).trans (grown_set1 _ g 3 v3)).trans (grown_set1 _ g 4 v4)).trans (grown_set1 _ g 5 v5)).trans (grown_set1 _ g 6 v6)).trans (grown_set1 _ g 7 v7)
theorem free8 {w : World} {g : Nat} {T : TypeId} {c0 c1 c2 c3 c4 c5 c6 c7 : Value} (h : w.heap[g]? = some (.cells #[c0, c1, c2, c3, c4, c5, c6, c7] T (0, 0))) :
    (∀ j, w.frozen? ⟨g, j, none⟩ = false) ∧ w.cell? ⟨g, 0, none⟩ = some c0 ∧ w.cell? ⟨g, 1, none⟩ = some c1 ∧ w.cell? ⟨g, 2, none⟩ = some c2 ∧ w.cell? ⟨g, 3, none⟩ = some c3 ∧ w.cell? ⟨g, 4, none⟩ = some c4 ∧ w.cell? ⟨g, 5, none⟩ = some c5 ∧ w.cell? ⟨g, 6, none⟩ = some c6 ∧ w.cell? ⟨g, 7, none⟩ = some c7 :=
  ⟨block_free h, by simpa using block_cell h 0, by simpa using block_cell h 1, by simpa using block_cell h 2, by simpa using block_cell h 3, by simpa using block_cell h 4, by simpa using block_cell h 5, by simpa using block_cell h 6, by simpa using block_cell h 7⟩
theorem own_at8 {w : World} {base m c i : Nat} {A : Option Addr} {x : List Nat} {e : TypeId} (h : w.ownsRow base e 1 (.slice A m c) m (x.map fun (x : Nat) => Value.int .u8 (x : Int))) (hi : i + 8 ≤ m) :
    ∃ b, A = some ⟨b, 0, none⟩ ∧ base ≤ b ∧ b < w.heap.size ∧ ∀ j, j < 8 → w.cell? ⟨b, i + j, none⟩ = some (.int .u8 ((x.getD (i + j) 0 : Nat) : Int)) := by
  obtain ⟨g, cap, hv, hb, hlt⟩ := h.form (by omega)
  have hA : A = some ⟨g, 0, none⟩ := by injection hv
  subst hA
  have hl : x.length = m := by simpa using h.1
  refine ⟨g, rfl, hb, hlt, fun j hj => ?_⟩
  obtain ⟨b, o, e1, _, hc⟩ := (Rd.of_own h).2 (by omega)
  injection e1 with e1; injection e1 with e2 e3
  subst e2; subst e3
  have := hc (i + j) (.int .u8 ((x.getD (i + j) 0 : Nat) : Int)) (by simp [List.getD_eq_getElem?_getD, List.getElem?_eq_getElem (show i + j < x.length by omega)])
  simpa using this
end Go.Proofs.Ytmpklplojfjfbaa
