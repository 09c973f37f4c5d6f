/- Rows of digests that are written into: what is made new, one element set, read. Nothing of the program stands in it but its tables, so there is no condition. -/
import Derived.Test.YthjpaclcoipocaaGreatKeD
import Derived.Test.YthjpaclcoipocaaGreatPuH0
import Derived.Laws.OwnMore
namespace Go.Proofs.YthjpaclcoipocaaGreat
open Go.RowKit Go.Lib

/-- A row of digests that fills its block. -/
def DRow (w : World) (g n : Nat) (L : List D8) : Prop := L.length = n ∧ ∃ cur : Array Value, w.heap[g]? = some (.cells cur 30 (0, 0)) ∧ cur.toList = flatD L
theorem D8.cells_len (d : D8) : d.cells.length = 8 := rfl
theorem DRow.lt {w : World} {g n : Nat} {L : List D8} (h : DRow w g n L) : g < w.heap.size := by
  obtain ⟨_, cur, h1, _⟩ := h
  exact block_lt h1
theorem DRow.same {w w' : World} {g n : Nat} {L : List D8} (h : DRow w g n L) (e : w'.heap[g]? = w.heap[g]?) : DRow w' g n L := by
  obtain ⟨hl, cur, h1, h2⟩ := h
  exact ⟨hl, cur, e.trans h1, h2⟩
theorem DRow.below {w w' : World} {g n : Nat} {L : List D8} (h : DRow w g n L) (hb : Below w.heap.size w w') : DRow w' g n L := h.same (hb.block _ h.lt)
theorem DRow.grown {w w' : World} {g n : Nat} {L : List D8} {row : Option Nat} (h : DRow w g n L) (hg : w.grownBy w' row) (hne : row ≠ some g) : DRow w' g n L := h.same (hg.block _ h.lt (fun e => hne e.symm))
theorem DRow.rd {w : World} {g n : Nat} {L : List D8} (h : DRow w g n L) : Rd w w.heap.size 8 (some ⟨g, 0, none⟩) n (flatD L) := by
  have hlt := h.lt
  obtain ⟨hl, cur, h1, h2⟩ := h
  refine ⟨by rw [flatD_len, hl], fun _ => ⟨g, 0, rfl, hlt, fun j u hu => ?_⟩⟩
  rw [Nat.zero_add, block_cell h1, ← Array.getElem?_toList, h2]
  exact hu
theorem DRow.free {w : World} {g n : Nat} {L : List D8} (h : DRow w g n L) (j : Nat) : w.frozen? ⟨g, j, none⟩ = false := by
  obtain ⟨_, cur, h1, _⟩ := h
  exact block_free h1 j
theorem DRow.cell {w : World} {g n k j : Nat} {L : List D8} (h : DRow w g n L) (hk : k < n) (hj : j < 8) : w.cell? ⟨g, k * 8 + j, none⟩ = (L.getD k D8.zero).cells[j]? := by
  obtain ⟨hl, cur, h1, h2⟩ := h
  rw [block_cell h1, ← Array.getElem?_toList, h2, flatD_at L k j (by omega) hj]
/-- All that a store into element k asks. -/
theorem DRow.at8 {w : World} {g n k : Nat} {L : List D8} (h : DRow w g n L) (hk : k < n) :
    (∀ j, w.frozen? ⟨g, j, none⟩ = false) ∧ w.cell? ⟨g, k * 8, none⟩ = some (.int .u8 ((L.getD k D8.zero).x0 : Int)) ∧ w.cell? ⟨g, k * 8 + 1, none⟩ = some (.int .u8 ((L.getD k D8.zero).x1 : Int)) ∧ w.cell? ⟨g, k * 8 + 2, none⟩ = some (.int .u8 ((L.getD k D8.zero).x2 : Int)) ∧ w.cell? ⟨g, k * 8 + 3, none⟩ = some (.int .u8 ((L.getD k D8.zero).x3 : Int)) ∧ w.cell? ⟨g, k * 8 + 4, none⟩ = some (.int .u8 ((L.getD k D8.zero).x4 : Int)) ∧ w.cell? ⟨g, k * 8 + 5, none⟩ = some (.int .u8 ((L.getD k D8.zero).x5 : Int)) ∧ w.cell? ⟨g, k * 8 + 6, none⟩ = some (.int .u8 ((L.getD k D8.zero).x6 : Int)) ∧ w.cell? ⟨g, k * 8 + 7, none⟩ = some (.int .u8 ((L.getD k D8.zero).x7 : Int)) :=
  ⟨h.free, h.cell hk (j := 0) (by decide), h.cell hk (j := 1) (by decide), h.cell hk (j := 2) (by decide), h.cell hk (j := 3) (by decide), h.cell hk (j := 4) (by decide), h.cell hk (j := 5) (by decide), h.cell hk (j := 6) (by decide), h.cell hk (j := 7) (by decide)⟩
theorem flatD_set (L : List D8) (k : Nat) (d : D8) (hk : k < L.length) (cur : Array Value) (h : cur.toList = flatD L) : (layA cur (k * 8) d.cells).toList = flatD (L.set k d) := by
  have hcs : cur.size = L.length * 8 := by rw [← Array.length_toList, h, flatD_len]
  have hk8 : k * 8 + 8 ≤ L.length * 8 := by omega
  apply List.ext_getElem?
  intro i
  rw [Array.getElem?_toList, layA_at _ _ _ _ (by rw [D8.cells_len, hcs]; exact hk8), D8.cells_len]
  by_cases hi : i < L.length * 8
  · have hq : i / 8 < L.length := by omega
    have hr : i % 8 < 8 := Nat.mod_lt _ (by decide)
    have hd : i = i / 8 * 8 + i % 8 := by omega
    have h1 := flatD_at (L.set k d) (i / 8) (i % 8) (by rw [List.length_set]; exact hq) hr
    have h2 := flatD_at L (i / 8) (i % 8) hq hr
    rw [← hd] at h1 h2
    rw [h1]
    by_cases hik : k * 8 ≤ i ∧ i < k * 8 + 8
    · have e : i / 8 = k := by omega
      rw [if_pos hik, e, List.getD_eq_getElem?_getD, List.getElem?_set_self hk]
      simp only [Option.getD_some]
      congr 1
      omega
    · have e : i / 8 ≠ k := by omega
      rw [if_neg hik, ← Array.getElem?_toList, h, h2, List.getD_eq_getElem?_getD, List.getD_eq_getElem?_getD, List.getElem?_set_ne (fun h => e h.symm)]
  · rw [if_neg (by omega), Array.getElem?_eq_none (by omega), List.getElem?_eq_none (by rw [flatD_len, List.length_set]; omega)]
theorem DRow.set {w : World} {g n k : Nat} {L : List D8} (h : DRow w g n L) (hk : k < n) (d : D8) : DRow (w.setCells g (k * 8) d.cells) g n (L.set k d) := by
  obtain ⟨hl, cur, h1, h2⟩ := h
  exact ⟨by rw [List.length_set, hl], _, block_setCells d.cells (k * 8) w cur h1, flatD_set L k d (by omega) cur h2⟩
/-- The same, as the machine spells it. -/
def set8R (w : World) (g k : Nat) (d : D8) : World := ((((((((w.setCell ⟨g, k * 8, none⟩ (.int .u8 (d.x0 : Int))).setCell ⟨g, k * 8 + 1, none⟩ (.int .u8 (d.x1 : Int))).setCell ⟨g, k * 8 + 2, none⟩ (.int .u8 (d.x2 : Int))).setCell ⟨g, k * 8 + 3, none⟩ (.int .u8 (d.x3 : Int))).setCell ⟨g, k * 8 + 4, none⟩ (.int .u8 (d.x4 : Int))).setCell ⟨g, k * 8 + 5, none⟩ (.int .u8 (d.x5 : Int))).setCell ⟨g, k * 8 + 6, none⟩ (.int .u8 (d.x6 : Int))).setCell ⟨g, k * 8 + 7, none⟩ (.int .u8 (d.x7 : Int)))
theorem DRow.setR {w : World} {g n k : Nat} {L : List D8} (h : DRow w g n L) (hk : k < n) (d : D8) : DRow (set8R w g k d) g n (L.set k d) ∧ w.grownBy (set8R w g k d) (some g) :=
  ⟨h.set hk d, grown_setCells d.cells (k * 8) w⟩
/-- A row made new. -/
def newD (w : World) (n : Nat) : World := w.alloc (.cells (madeCells (Value.agg #[.int .u8 (D8.zero.x0 : Int), .int .u8 (D8.zero.x1 : Int), .int .u8 (D8.zero.x2 : Int), .int .u8 (D8.zero.x3 : Int), .int .u8 (D8.zero.x4 : Int), .int .u8 (D8.zero.x5 : Int), .int .u8 (D8.zero.x6 : Int), .int .u8 (D8.zero.x7 : Int)]).cells (n * 8)) 30)
theorem madeD_list (n : Nat) : (madeCells (Value.agg #[.int .u8 (D8.zero.x0 : Int), .int .u8 (D8.zero.x1 : Int), .int .u8 (D8.zero.x2 : Int), .int .u8 (D8.zero.x3 : Int), .int .u8 (D8.zero.x4 : Int), .int .u8 (D8.zero.x5 : Int), .int .u8 (D8.zero.x6 : Int), .int .u8 (D8.zero.x7 : Int)]).cells (n * 8)).toList = flatD (List.replicate n D8.zero) := by
  apply List.ext_getElem?
  intro i
  rw [Array.getElem?_toList]
  by_cases hi : i < n * 8
  · have hq : i / 8 < (List.replicate n D8.zero).length := by rw [List.length_replicate]; omega
    have hr : i % 8 < 8 := Nat.mod_lt _ (by decide)
    have h1 := flatD_at (List.replicate n D8.zero) (i / 8) (i % 8) hq hr
    rw [show i / 8 * 8 + i % 8 = i by omega] at h1
    rw [h1, List.getD_eq_getElem?_getD, List.getElem?_replicate, if_pos (by omega)]
    have hsz : (Value.agg #[.int .u8 (D8.zero.x0 : Int), .int .u8 (D8.zero.x1 : Int), .int .u8 (D8.zero.x2 : Int), .int .u8 (D8.zero.x3 : Int), .int .u8 (D8.zero.x4 : Int), .int .u8 (D8.zero.x5 : Int), .int .u8 (D8.zero.x6 : Int), .int .u8 (D8.zero.x7 : Int)]).cells.size = 8 := rfl
    unfold madeCells
    simp only [Array.getElem?_map, Array.getElem?_range, if_pos hi, Option.map_some, Option.getD_some, hsz]
    have hj : i % 8 = 0 ∨ i % 8 = 1 ∨ i % 8 = 2 ∨ i % 8 = 3 ∨ i % 8 = 4 ∨ i % 8 = 5 ∨ i % 8 = 6 ∨ i % 8 = 7 := by omega
    rcases hj with e | e | e | e | e | e | e | e <;> rw [e] <;> rfl
  · rw [Array.getElem?_eq_none (by unfold madeCells; simp; omega), List.getElem?_eq_none (by rw [flatD_len, List.length_replicate]; omega)]
theorem newD_row (w : World) (n : Nat) : DRow (newD w n) w.heap.size n (List.replicate n D8.zero) := ⟨List.length_replicate, _, heap_alloc_new w _, madeD_list n⟩
theorem newD_below (w : World) (n : Nat) : Below w.heap.size w (newD w n) := (Below.refl _ _).alloc (Nat.le_refl _) _
theorem newD_size (w : World) (n : Nat) : (newD w n).heap.size = w.heap.size + 1 := by unfold newD; simp
theorem newD_block {w : World} {b n : Nat} {o : Obj} (h : w.heap[b]? = some o) : (newD w n).heap[b]? = some o := block_alloc h _
theorem info_D : (Tryz.prog.info? 30).map (fun i => (i.zero, i.size, i.bytes)) = some (some (.agg #[.int .u8 (D8.zero.x0 : Int), .int .u8 (D8.zero.x1 : Int), .int .u8 (D8.zero.x2 : Int), .int .u8 (D8.zero.x3 : Int), .int .u8 (D8.zero.x4 : Int), .int .u8 (D8.zero.x5 : Int), .int .u8 (D8.zero.x6 : Int), .int .u8 (D8.zero.x7 : Int)]), 8, 8) := by kernel_rfl
theorem make_dig (n : Nat) (hn : n ≤ 1000000) (w : World) : (Instr.makeSlice 66 (.int .i64 (n : Int)) (.int .i64 (n : Int))).run Tryz.prog w = .ok (.slice (some ⟨w.heap.size, 0, none⟩) n n) (newD w n) := by
  obtain ⟨i, hi, hz, hs, hb⟩ := info_parts info_D
  have hr := run_make (P := Tryz.prog) w 66 30 i _ Tryz.underlying66 hi hz .i64 .i64 n n (by omega) (Int.le_refl _) (by rw [hb]; omega) (by omega)
  simp only [Int.toNat_natCast, hs] at hr
  exact hr
/-- A row in which the first k are told by a rule. -/
def rowK (E : Nat → D8) (k n : Nat) : List D8 := (List.range n).map (fun j => if j < k then E j else D8.zero)
theorem rowK_zero (E : Nat → D8) (n : Nat) : rowK E 0 n = List.replicate n D8.zero := by
  unfold rowK
  apply List.ext_getElem
  · simp
  · intro i h1 h2; simp
theorem rowK_set (E : Nat → D8) (k n : Nat) : (rowK E k n).set k (E k) = rowK E (k + 1) n := by
  apply List.ext_getElem
  · simp [rowK]
  · intro i h1 h2
    rw [List.getElem_set]
    by_cases e : k = i
    · subst e; simp [rowK]
    · rw [if_neg e]
      simp only [rowK, List.getElem_map, List.getElem_range]
      by_cases h : i < k
      · rw [if_pos h, if_pos (by omega)]
      · rw [if_neg h, if_neg (by omega)]
theorem rowK_full (E : Nat → D8) (n : Nat) : rowK E n n = (List.range n).map E := by
  unfold rowK
  apply List.map_congr_left
  intro j hj
  rw [if_pos (List.mem_range.1 hj)]
end Go.Proofs.YthjpaclcoipocaaGreat
