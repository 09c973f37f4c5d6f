/- The walk of PurseNewer: whether a purse that both sides signed comes behind another one. Conditions: bounds. -/
import Derived.Test.YthjpaclcoipocaaPvD
import Derived.Test.YthjpaclcoipocaaPuP
import Derived.Test.YthjpaclcoipocaaPuPR
import Derived.Test.YthjpaclcoipocaaJoinL
namespace Go.Proofs.Ythjpaclcoipocaa
open Go.RowKit Go.Lib




theorem loadPr {p : Pu} {A : Option Addr} {n c : Nat} {w : World} {b : Nat} (h : w.heap[b]? = some (.cells #[.int .u8 (p.nm.x0 : Int), .int .u8 (p.nm.x1 : Int), .int .u8 (p.nm.x2 : Int), .int .u8 (p.nm.x3 : Int), .int .u8 (p.nm.x4 : Int), .int .u8 (p.nm.x5 : Int), .int .u8 (p.nm.x6 : Int), .int .u8 (p.nm.x7 : Int), .int .i64 p.no, .int .i64 p.h0, .int .i64 p.h1, .slice A n c] 26 (0, 0))) : (Instr.loadAt 26 (.pointer (some ⟨b, 0, none⟩))).run Try.prog w = .ok (.agg #[.int .u8 (p.nm.x0 : Int), .int .u8 (p.nm.x1 : Int), .int .u8 (p.nm.x2 : Int), .int .u8 (p.nm.x3 : Int), .int .u8 (p.nm.x4 : Int), .int .u8 (p.nm.x5 : Int), .int .u8 (p.nm.x6 : Int), .int .u8 (p.nm.x7 : Int), .int .i64 p.no, .int .i64 p.h0, .int .i64 p.h1, .slice A n c]) w := by
  obtain ⟨z0, z1, z2, z3, z4, z5, z6, z7, z8, z9, z10, z11⟩ := PBox.all h
  clear h
  go_simp
theorem keys_load {w : World} {g : Nat} (h : w.heap[g]? = some (.cells #[.int .u8 ((kS 0).x0 : Int), .int .u8 ((kS 0).x1 : Int), .int .u8 ((kS 0).x2 : Int), .int .u8 ((kS 0).x3 : Int), .int .u8 ((kS 0).x4 : Int), .int .u8 ((kS 0).x5 : Int), .int .u8 ((kS 0).x6 : Int), .int .u8 ((kS 0).x7 : Int), .int .u8 ((kS 1).x0 : Int), .int .u8 ((kS 1).x1 : Int), .int .u8 ((kS 1).x2 : Int), .int .u8 ((kS 1).x3 : Int), .int .u8 ((kS 1).x4 : Int), .int .u8 ((kS 1).x5 : Int), .int .u8 ((kS 1).x6 : Int), .int .u8 ((kS 1).x7 : Int)] 39 (0, 0))) : (Instr.loadAt 39 (.pointer (some ⟨g, 0, none⟩))).run Try.prog w = .ok (.agg #[.int .u8 ((kS 0).x0 : Int), .int .u8 ((kS 0).x1 : Int), .int .u8 ((kS 0).x2 : Int), .int .u8 ((kS 0).x3 : Int), .int .u8 ((kS 0).x4 : Int), .int .u8 ((kS 0).x5 : Int), .int .u8 ((kS 0).x6 : Int), .int .u8 ((kS 0).x7 : Int), .int .u8 ((kS 1).x0 : Int), .int .u8 ((kS 1).x1 : Int), .int .u8 ((kS 1).x2 : Int), .int .u8 ((kS 1).x3 : Int), .int .u8 ((kS 1).x4 : Int), .int .u8 ((kS 1).x5 : Int), .int .u8 ((kS 1).x6 : Int), .int .u8 ((kS 1).x7 : Int)]) w := by
  have y0 := block_cell h 0; have y1 := block_cell h 1; have y2 := block_cell h 2; have y3 := block_cell h 3; have y4 := block_cell h 4; have y5 := block_cell h 5; have y6 := block_cell h 6; have y7 := block_cell h 7
  have y8 := block_cell h 8; have y9 := block_cell h 9; have y10 := block_cell h 10; have y11 := block_cell h 11; have y12 := block_cell h 12; have y13 := block_cell h 13; have y14 := block_cell h 14; have y15 := block_cell h 15
  simp at y0 y1 y2 y3 y4 y5 y6 y7 y8 y9 y10 y11 y12 y13 y14 y15
  clear h
  go_simp
theorem sigs_load {w : World} {g : Nat} {V : Nat → Value} (h : w.heap[g]? = some (.cells #[V 0, V 1] 41 (0, 0))) : (Instr.loadAt 41 (.pointer (some ⟨g, 0, none⟩))).run Try.prog w = .ok (.agg #[V 0, V 1]) w := by
  have y0 := block_cell h 0; have y1 := block_cell h 1
  simp at y0 y1
  clear h
  go_simp
theorem two_cell {w : World} {g k : Nat} {V : Nat → Value} (h : w.heap[g]? = some (.cells #[V 0, V 1] 41 (0, 0))) (hk : k < 2) : w.cell? ⟨g, k, none⟩ = some (V k) := by
  match k, hk with
  | 0, _ => exact block_cell h 0
  | 1, _ => exact block_cell h 1
theorem putQ_none {q : Nat → Option Nat} {k : Nat} (h : q k = none) : putQ q k none = q := by
  funext j
  unfold putQ
  split
  · rename_i e; subst e; exact h.symm
  · rfl
theorem exec_binP {P : Program} {o : Oper} {ev : Operand → Value} {op : BinOp} {t t' : TypeId} {x y : Operand} {w : World} {V W R : Value} (ho : o.op = .binOp op t x y t') (hx : ev x = V) (hy : ev y = W) (hg : (eqGuard op t x y V W).run P w = .ok () w) (hb : (binOp op t V W).run P w = .ok R w) : (execOp ev o).run P w = .ok (.value R) w := by
  simp [execOp, ho, hx, hy, hg, hb, Result.andThen]
theorem putQ_far {q : Nat → Option Nat} {k j : Nat} {v : Option Nat} (h : j ≠ k) : putQ q k v j = q j := by unfold putQ; rw [if_neg h]
theorem putQ_putQ (q : Nat → Option Nat) (k : Nat) (a b : Option Nat) : putQ (putQ q k a) k b = putQ q k b := by
  funext j
  unfold putQ
  split <;> rfl
theorem own_capP {w : World} {base n c : Nat} {A : Option Addr} {e : TypeId} {sz : Nat} {xs : List Value} (h : w.ownsRow base e sz (.slice A n c) n xs) : n ≤ c := by
  rcases h.2 with ⟨h1, h2⟩ | ⟨g, cap, cur, h1, _, _, h4, _⟩
  · omega
  · injection h1 with _ _ h1; omega
theorem key_cells {w : World} {g k : Nat} (h : w.heap[g]? = some (.cells #[.int .u8 ((kS 0).x0 : Int), .int .u8 ((kS 0).x1 : Int), .int .u8 ((kS 0).x2 : Int), .int .u8 ((kS 0).x3 : Int), .int .u8 ((kS 0).x4 : Int), .int .u8 ((kS 0).x5 : Int), .int .u8 ((kS 0).x6 : Int), .int .u8 ((kS 0).x7 : Int), .int .u8 ((kS 1).x0 : Int), .int .u8 ((kS 1).x1 : Int), .int .u8 ((kS 1).x2 : Int), .int .u8 ((kS 1).x3 : Int), .int .u8 ((kS 1).x4 : Int), .int .u8 ((kS 1).x5 : Int), .int .u8 ((kS 1).x6 : Int), .int .u8 ((kS 1).x7 : Int)] 39 (0, 0))) (hk : k < 2) : w.cell? ⟨g, k * 8, none⟩ = some (.int .u8 ((kS k).x0 : Int)) ∧ w.cell? ⟨g, k * 8 + 1, none⟩ = some (.int .u8 ((kS k).x1 : Int)) ∧ w.cell? ⟨g, k * 8 + 2, none⟩ = some (.int .u8 ((kS k).x2 : Int)) ∧ w.cell? ⟨g, k * 8 + 3, none⟩ = some (.int .u8 ((kS k).x3 : Int)) ∧ w.cell? ⟨g, k * 8 + 4, none⟩ = some (.int .u8 ((kS k).x4 : Int)) ∧ w.cell? ⟨g, k * 8 + 5, none⟩ = some (.int .u8 ((kS k).x5 : Int)) ∧ w.cell? ⟨g, k * 8 + 6, none⟩ = some (.int .u8 ((kS k).x6 : Int)) ∧ w.cell? ⟨g, k * 8 + 7, none⟩ = some (.int .u8 ((kS k).x7 : Int)) := by
  match k, hk with
  | 0, _ => exact ⟨block_cell h 0, block_cell h 1, block_cell h 2, block_cell h 3, block_cell h 4, block_cell h 5, block_cell h 6, block_cell h 7⟩
  | 1, _ => exact ⟨block_cell h 8, block_cell h 9, block_cell h 10, block_cell h 11, block_cell h 12, block_cell h 13, block_cell h 14, block_cell h 15⟩
set_option maxRecDepth 100000 in
set_option maxHeartbeats 4000000 in
theorem pnewer_any (X Y : Pu) (A A' : Option Addr) (n c n' c' : Nat) (N0 N1 O0 O1 sw : Bool) (w : World) (hX : Rd w w.heap.size 11 A n (flatH X.held)) (hcX : n ≤ c) (hY : Rd w w.heap.size 11 A' n' (flatH Y.held)) (hcY : n' ≤ c') (hbX : X.bytesOk) (hbY : Y.bytesOk) :
    Calls Try.prog 3 #[.agg #[.int .u8 (X.nm.x0 : Int), .int .u8 (X.nm.x1 : Int), .int .u8 (X.nm.x2 : Int), .int .u8 (X.nm.x3 : Int), .int .u8 (X.nm.x4 : Int), .int .u8 (X.nm.x5 : Int), .int .u8 (X.nm.x6 : Int), .int .u8 (X.nm.x7 : Int), .int .i64 X.no, .int .i64 X.h0, .int .i64 X.h1, .slice A n c], .agg #[.int .u8 (Y.nm.x0 : Int), .int .u8 (Y.nm.x1 : Int), .int .u8 (Y.nm.x2 : Int), .int .u8 (Y.nm.x3 : Int), .int .u8 (Y.nm.x4 : Int), .int .u8 (Y.nm.x5 : Int), .int .u8 (Y.nm.x6 : Int), .int .u8 (Y.nm.x7 : Int), .int .i64 Y.no, .int .i64 Y.h0, .int .i64 Y.h1, .slice A' n' c'], .agg #[.bool N0, .bool N1, .bool O0, .bool O1, .bool sw]] w fun e w' => e = .returned (.bool true) ∧ Below w.heap.size w w' := by
  have HX0 : Hid ((((w.alloc (.cells #[.int .u8 (X.nm.x0 : Int), .int .u8 (X.nm.x1 : Int), .int .u8 (X.nm.x2 : Int), .int .u8 (X.nm.x3 : Int), .int .u8 (X.nm.x4 : Int), .int .u8 (X.nm.x5 : Int), .int .u8 (X.nm.x6 : Int), .int .u8 (X.nm.x7 : Int), .int .i64 X.no, .int .i64 X.h0, .int .i64 X.h1, .slice A n c] 26)).alloc (.cells #[.int .u8 (Y.nm.x0 : Int), .int .u8 (Y.nm.x1 : Int), .int .u8 (Y.nm.x2 : Int), .int .u8 (Y.nm.x3 : Int), .int .u8 (Y.nm.x4 : Int), .int .u8 (Y.nm.x5 : Int), .int .u8 (Y.nm.x6 : Int), .int .u8 (Y.nm.x7 : Int), .int .i64 Y.no, .int .i64 Y.h0, .int .i64 Y.h1, .slice A' n' c'] 26)).alloc (.cells #[.bool N0, .bool N1, .bool O0, .bool O1, .bool sw] 29)).heap[w.heap.size]? = some (.cells #[.int .u8 (X.nm.x0 : Int), .int .u8 (X.nm.x1 : Int), .int .u8 (X.nm.x2 : Int), .int .u8 (X.nm.x3 : Int), .int .u8 (X.nm.x4 : Int), .int .u8 (X.nm.x5 : Int), .int .u8 (X.nm.x6 : Int), .int .u8 (X.nm.x7 : Int), .int .i64 X.no, .int .i64 X.h0, .int .i64 X.h1, .slice A n c] 26 (0, 0))) := block_alloc (block_alloc (heap_alloc_new w _) _) _
  have HY0 : Hid ((((w.alloc (.cells #[.int .u8 (X.nm.x0 : Int), .int .u8 (X.nm.x1 : Int), .int .u8 (X.nm.x2 : Int), .int .u8 (X.nm.x3 : Int), .int .u8 (X.nm.x4 : Int), .int .u8 (X.nm.x5 : Int), .int .u8 (X.nm.x6 : Int), .int .u8 (X.nm.x7 : Int), .int .i64 X.no, .int .i64 X.h0, .int .i64 X.h1, .slice A n c] 26)).alloc (.cells #[.int .u8 (Y.nm.x0 : Int), .int .u8 (Y.nm.x1 : Int), .int .u8 (Y.nm.x2 : Int), .int .u8 (Y.nm.x3 : Int), .int .u8 (Y.nm.x4 : Int), .int .u8 (Y.nm.x5 : Int), .int .u8 (Y.nm.x6 : Int), .int .u8 (Y.nm.x7 : Int), .int .i64 Y.no, .int .i64 Y.h0, .int .i64 Y.h1, .slice A' n' c'] 26)).alloc (.cells #[.bool N0, .bool N1, .bool O0, .bool O1, .bool sw] 29)).heap[w.heap.size + 1]? = some (.cells #[.int .u8 (Y.nm.x0 : Int), .int .u8 (Y.nm.x1 : Int), .int .u8 (Y.nm.x2 : Int), .int .u8 (Y.nm.x3 : Int), .int .u8 (Y.nm.x4 : Int), .int .u8 (Y.nm.x5 : Int), .int .u8 (Y.nm.x6 : Int), .int .u8 (Y.nm.x7 : Int), .int .i64 Y.no, .int .i64 Y.h0, .int .i64 Y.h1, .slice A' n' c'] 26 (0, 0))) := block_alloc (alloc_at (by simp)) _
  have HS0 : Hid ((((w.alloc (.cells #[.int .u8 (X.nm.x0 : Int), .int .u8 (X.nm.x1 : Int), .int .u8 (X.nm.x2 : Int), .int .u8 (X.nm.x3 : Int), .int .u8 (X.nm.x4 : Int), .int .u8 (X.nm.x5 : Int), .int .u8 (X.nm.x6 : Int), .int .u8 (X.nm.x7 : Int), .int .i64 X.no, .int .i64 X.h0, .int .i64 X.h1, .slice A n c] 26)).alloc (.cells #[.int .u8 (Y.nm.x0 : Int), .int .u8 (Y.nm.x1 : Int), .int .u8 (Y.nm.x2 : Int), .int .u8 (Y.nm.x3 : Int), .int .u8 (Y.nm.x4 : Int), .int .u8 (Y.nm.x5 : Int), .int .u8 (Y.nm.x6 : Int), .int .u8 (Y.nm.x7 : Int), .int .i64 Y.no, .int .i64 Y.h0, .int .i64 Y.h1, .slice A' n' c'] 26)).alloc (.cells #[.bool N0, .bool N1, .bool O0, .bool O1, .bool sw] 29)).heap[w.heap.size + 1 + 1]? = some (.cells #[.bool N0, .bool N1, .bool O0, .bool O1, .bool sw] 29 (0, 0))) := alloc_at (by simp)
  have Hw0 : Hid (Below w.heap.size w (((w.alloc (.cells #[.int .u8 (X.nm.x0 : Int), .int .u8 (X.nm.x1 : Int), .int .u8 (X.nm.x2 : Int), .int .u8 (X.nm.x3 : Int), .int .u8 (X.nm.x4 : Int), .int .u8 (X.nm.x5 : Int), .int .u8 (X.nm.x6 : Int), .int .u8 (X.nm.x7 : Int), .int .i64 X.no, .int .i64 X.h0, .int .i64 X.h1, .slice A n c] 26)).alloc (.cells #[.int .u8 (Y.nm.x0 : Int), .int .u8 (Y.nm.x1 : Int), .int .u8 (Y.nm.x2 : Int), .int .u8 (Y.nm.x3 : Int), .int .u8 (Y.nm.x4 : Int), .int .u8 (Y.nm.x5 : Int), .int .u8 (Y.nm.x6 : Int), .int .u8 (Y.nm.x7 : Int), .int .i64 Y.no, .int .i64 Y.h0, .int .i64 Y.h1, .slice A' n' c'] 26)).alloc (.cells #[.bool N0, .bool N1, .bool O0, .bool O1, .bool sw] 29))) := Lib.hid (((((Below.refl _ _).alloc (Nat.le_refl _) _).alloc (by simp) _).alloc (by simp; omega) _))
  have Hrx := Lib.hid hX; have Hry := Lib.hid hY; have HbX := Lib.hid hbX; have HbY := Lib.hid hbY
  have Hlx := Lib.hid hX.hlen; have Hly := Lib.hid hY.hlen
  clear hX hY hbX hbY
  go_enter Try.func3, Try.ntmps3
  go_upto_region 1 with fail
  generalize (((w.alloc (.cells #[.int .u8 (X.nm.x0 : Int), .int .u8 (X.nm.x1 : Int), .int .u8 (X.nm.x2 : Int), .int .u8 (X.nm.x3 : Int), .int .u8 (X.nm.x4 : Int), .int .u8 (X.nm.x5 : Int), .int .u8 (X.nm.x6 : Int), .int .u8 (X.nm.x7 : Int), .int .i64 X.no, .int .i64 X.h0, .int .i64 X.h1, .slice A n c] 26)).alloc (.cells #[.int .u8 (Y.nm.x0 : Int), .int .u8 (Y.nm.x1 : Int), .int .u8 (Y.nm.x2 : Int), .int .u8 (Y.nm.x3 : Int), .int .u8 (Y.nm.x4 : Int), .int .u8 (Y.nm.x5 : Int), .int .u8 (Y.nm.x6 : Int), .int .u8 (Y.nm.x7 : Int), .int .i64 Y.no, .int .i64 Y.h0, .int .i64 Y.h1, .slice A' n' c'] 26)).alloc (.cells #[.bool N0, .bool N1, .bool O0, .bool O1, .bool sw] 29)) = w0 at *
  have HTO := Lib.hid (fun u => told_any u)
  obtain ⟨y0, y1, y2, y3, y4, y5, y6, y7, y8, y9, y10, y11⟩ := PBox.all HX0.out
  have hl1 := block_lt HX0.out
  go_wp2_with fail
  refine (great_any X A n c w0).mono ?_
  rintro e w1 ⟨rfl, hb⟩
  have HX1 := Lib.hid (block_below HX0.out hb (block_lt HX0.out)); have HY1 := Lib.hid (block_below HY0.out hb (block_lt HY0.out)); have HS1 := Lib.hid (block_below HS0.out hb (block_lt HS0.out)); have Hw1 := Lib.hid (Hw0.out.trans (hb.mono Hw0.out.size))
  clear hb y0 y1 y2 y3 y4 y5 y6 y7 y8 y9 y10 y11 hl1 HX0 HY0 HS0 Hw0
  by_cases h40 : 40 < n
  · have b1 : decide (40 < n) = true := decide_eq_true h40
    clear h40
    go_wp2_with fail
    refine (HTO.out w1).mono ?_
    rintro e w2 ⟨rfl, hb⟩
    have Hw2 := Lib.hid (Hw1.out.trans (hb.mono Hw1.out.size))
    clear hb
    go_wp2
    go_ret
    exact ⟨rfl, Hw2.out⟩
  have b1 : decide (40 < n) = false := decide_eq_false h40
  obtain ⟨y0, y1, y2, y3, y4, y5, y6, y7, y8, y9, y10, y11⟩ := PBox.all HY1.out
  have hl1 := block_lt HY1.out
  go_wp2_with fail
  refine (great_any Y A' n' c' w1).mono ?_
  rintro e w2 ⟨rfl, hb⟩
  have HX2 := Lib.hid (block_below HX1.out hb (block_lt HX1.out)); have HY2 := Lib.hid (block_below HY1.out hb (block_lt HY1.out)); have HS2 := Lib.hid (block_below HS1.out hb (block_lt HS1.out)); have Hw2 := Lib.hid (Hw1.out.trans (hb.mono Hw1.out.size))
  clear hb y0 y1 y2 y3 y4 y5 y6 y7 y8 y9 y10 y11 hl1 HX1 HY1 HS1 Hw1
  by_cases h40' : 40 < n'
  · have b2 : decide (40 < n') = true := decide_eq_true h40'
    clear h40'
    go_wp2_with fail
    refine (HTO.out w2).mono ?_
    rintro e w3 ⟨rfl, hb⟩
    have Hw3 := Lib.hid (Hw2.out.trans (hb.mono Hw2.out.size))
    clear hb
    go_wp2
    go_ret
    exact ⟨rfl, Hw3.out⟩
  have b2 : decide (40 < n') = false := decide_eq_false h40'
  have HaX : Hid (∀ (u : World), Below w.heap.size w u → PuV.At X A n c u) := Lib.hid (fun u hu => (show PuV.At X A n c w from ⟨Hrx.out, hcX, by omega⟩).up hu)
  have HaY : Hid (∀ (u : World), Below w.heap.size w u → PuV.At Y A' n' c' u) := Lib.hid (fun u hu => (show PuV.At Y A' n' c' w from ⟨Hry.out, hcY, by omega⟩).up hu)
  have hn40 : n ≤ 40 := by omega
  have hn40' : n' ≤ 40 := by omega
  clear h40 h40' hcX hcY Hrx Hry
  have HXa := Lib.hid (HaX.out w2 Hw2.out); have HYa := Lib.hid (HaY.out w2 Hw2.out)
  have HXr := HX2; have HYr := HY2
  have HXl := Lib.hid (block_lt HX2.out); have HYl := Lib.hid (block_lt HY2.out)
  go_upto_region 3 with fail
  refine wp_region_inv0 (OwnI w2 X Y A A' n c n' c') [0, 1, 2, 3, 4, 5, 6, 7] (by kernel_rfl) (by kernel_rfl) (by kernel_rfl) ?_ ?_ ?_
  · refine ownI_start ?_ (Below.refl _ _).drew
    simp only [Act.put, List.setIfInBounds_toArray, List.set_cons_zero, List.set_cons_succ]
  ·
    refine StepsI.cons [] rfl (by kernel_rfl) ?_ ?_
    · intro L a x hp h0 hI K hK
      obtain ⟨v24, v25, v26, v27, v7, v8, ha, hb, f0, f1, f2, f3, f4, f5, f6, f7, e4x5⟩ := hI
      have HS := Lib.hid (block_below HXr.out hb HXl.out)
      obtain ⟨z0, z1, z2, z3, z4, z5, z6, z7, z8, z9, z10, z11⟩ := PBox.all HS.out
      have hlS := block_lt HS.out
      have HF := Lib.hid (show _ from (⟨f0, f1, f2, f3, f4, f5, f6, f7, e4x5⟩ : _ ∧ _ ∧ _ ∧ _ ∧ _ ∧ _ ∧ _ ∧ _ ∧ _))
      clear f0 f1 f2 f3 f4 f5 f6 f7 e4x5
      rw [if_pos (by rfl)]
      simp only [ha, Act.put, List.setIfInBounds_toArray, List.set_cons_zero, List.set_cons_succ]
      clear ha
      go_simp
      obtain ⟨f0, f1, f2, f3, f4, f5, f6, f7, e4x5⟩ := HF.out
      refine hK.out _ _ ?_
      refine (ownI_mk (.agg #[.int .u8 (X.nm.x0 : Int), .int .u8 (X.nm.x1 : Int), .int .u8 (X.nm.x2 : Int), .int .u8 (X.nm.x3 : Int), .int .u8 (X.nm.x4 : Int), .int .u8 (X.nm.x5 : Int), .int .u8 (X.nm.x6 : Int), .int .u8 (X.nm.x7 : Int), .int .i64 X.no, .int .i64 X.h0, .int .i64 X.h1, .slice A n c]) v25 v26 v27 v7 v8 ?_ (hb) ?_ ?_ ?_ ?_ ?_ ?_ ?_ ?_ ?_)
      · simp only [Act.put, List.setIfInBounds_toArray, List.set_cons_zero, List.set_cons_succ]
      · exact fun _ => rfl
      · exact fun h => f1 (listed_ne h (by decide))
      · exact fun h => f2 (listed_ne h (by decide))
      · exact fun h => f3 (listed_ne h (by decide))
      · exact fun h => f4 (listed_ne h (by decide))
      · exact fun h => f5 (listed_ne h (by decide))
      · exact fun h => ⟨listed_in (f6 (listed_ne h (by decide))).1, (f6 (listed_ne h (by decide))).2⟩
      · exact fun h => ⟨listed_in (f7 (listed_ne h (by decide))).1, (f7 (listed_ne h (by decide))).2⟩
      · exact fun h h' => e4x5 (listed_ne h (by decide)) (listed_ne h' (by decide))
    refine StepsI.cons [0] rfl (by kernel_rfl) ?_ ?_
    · intro L a x hp h0 hI K hK
      obtain ⟨v24, v25, v26, v27, v7, v8, ha, hb, f0, f1, f2, f3, f4, f5, f6, f7, e4x5⟩ := hI
      obtain rfl := f0 (hp 0 (by decide))
      have HF := Lib.hid (show _ from (⟨f0, f1, f2, f3, f4, f5, f6, f7, e4x5⟩ : _ ∧ _ ∧ _ ∧ _ ∧ _ ∧ _ ∧ _ ∧ _ ∧ _))
      clear f0 f1 f2 f3 f4 f5 f6 f7 e4x5
      rw [if_pos (by rfl)]
      simp only [ha, Act.put, List.setIfInBounds_toArray, List.set_cons_zero, List.set_cons_succ]
      clear ha
      go_simp
      go_at_call 6
      refine (own_any X A n c x (HXa.out.up hb)).mono ?_
      rintro e x' ⟨A1, n1, c1, rfl, ho1, hb'⟩
      obtain ⟨f0, f1, f2, f3, f4, f5, f6, f7, e4x5⟩ := HF.out
      refine hK.out _ _ ?_
      refine (ownI_mk (.agg #[.int .u8 (X.nm.x0 : Int), .int .u8 (X.nm.x1 : Int), .int .u8 (X.nm.x2 : Int), .int .u8 (X.nm.x3 : Int), .int .u8 (X.nm.x4 : Int), .int .u8 (X.nm.x5 : Int), .int .u8 (X.nm.x6 : Int), .int .u8 (X.nm.x7 : Int), .int .i64 X.no, .int .i64 X.h0, .int .i64 X.h1, .slice A n c]) (.agg #[.int .u8 (X.nm.x0 : Int), .int .u8 (X.nm.x1 : Int), .int .u8 (X.nm.x2 : Int), .int .u8 (X.nm.x3 : Int), .int .u8 (X.nm.x4 : Int), .int .u8 (X.nm.x5 : Int), .int .u8 (X.nm.x6 : Int), .int .u8 (X.nm.x7 : Int), .int .i64 X.no, .int .i64 X.h0, .int .i64 X.h1, .slice A1 n1 c1]) v26 v27 v7 v8 ?_ (hb.trans (hb'.mono hb.size)) ?_ ?_ ?_ ?_ ?_ ?_ ?_ ?_ ?_)
      · simp only [Act.put, List.setIfInBounds_toArray, List.set_cons_zero, List.set_cons_succ]
      · exact fun h => f0 (listed_ne h (by decide))
      · exact fun _ => ⟨A1, n1, c1, rfl, pown_down ho1 hb.size⟩
      · exact fun h => f2 (listed_ne h (by decide))
      · exact fun h => (f3 (listed_ne h (by decide))).below hb'
      · exact fun h => (f4 (listed_ne h (by decide))).below hb'
      · exact fun h => (f5 (listed_ne h (by decide))).below hb'
      · exact fun h => ⟨listed_in (f6 (listed_ne h (by decide))).1, (f6 (listed_ne h (by decide))).2.below hb'⟩
      · exact fun h => ⟨listed_in (f7 (listed_ne h (by decide))).1, (f7 (listed_ne h (by decide))).2.below hb'⟩
      · exact fun h h' => e4x5 (listed_ne h (by decide)) (listed_ne h' (by decide))
    refine StepsI.cons [] rfl (by kernel_rfl) ?_ ?_
    · intro L a x hp h0 hI K hK
      obtain ⟨v24, v25, v26, v27, v7, v8, ha, hb, f0, f1, f2, f3, f4, f5, f6, f7, e4x5⟩ := hI
      have HS := Lib.hid (block_below HYr.out hb HYl.out)
      obtain ⟨z0, z1, z2, z3, z4, z5, z6, z7, z8, z9, z10, z11⟩ := PBox.all HS.out
      have hlS := block_lt HS.out
      have HF := Lib.hid (show _ from (⟨f0, f1, f2, f3, f4, f5, f6, f7, e4x5⟩ : _ ∧ _ ∧ _ ∧ _ ∧ _ ∧ _ ∧ _ ∧ _ ∧ _))
      clear f0 f1 f2 f3 f4 f5 f6 f7 e4x5
      rw [if_pos (by rfl)]
      simp only [ha, Act.put, List.setIfInBounds_toArray, List.set_cons_zero, List.set_cons_succ]
      clear ha
      go_simp
      obtain ⟨f0, f1, f2, f3, f4, f5, f6, f7, e4x5⟩ := HF.out
      refine hK.out _ _ ?_
      refine (ownI_mk v24 v25 (.agg #[.int .u8 (Y.nm.x0 : Int), .int .u8 (Y.nm.x1 : Int), .int .u8 (Y.nm.x2 : Int), .int .u8 (Y.nm.x3 : Int), .int .u8 (Y.nm.x4 : Int), .int .u8 (Y.nm.x5 : Int), .int .u8 (Y.nm.x6 : Int), .int .u8 (Y.nm.x7 : Int), .int .i64 Y.no, .int .i64 Y.h0, .int .i64 Y.h1, .slice A' n' c']) v27 v7 v8 ?_ (hb) ?_ ?_ ?_ ?_ ?_ ?_ ?_ ?_ ?_)
      · simp only [Act.put, List.setIfInBounds_toArray, List.set_cons_zero, List.set_cons_succ]
      · exact fun h => f0 (listed_ne h (by decide))
      · exact fun h => f1 (listed_ne h (by decide))
      · exact fun _ => rfl
      · exact fun h => f3 (listed_ne h (by decide))
      · exact fun h => f4 (listed_ne h (by decide))
      · exact fun h => f5 (listed_ne h (by decide))
      · exact fun h => ⟨listed_in (f6 (listed_ne h (by decide))).1, (f6 (listed_ne h (by decide))).2⟩
      · exact fun h => ⟨listed_in (f7 (listed_ne h (by decide))).1, (f7 (listed_ne h (by decide))).2⟩
      · exact fun h h' => e4x5 (listed_ne h (by decide)) (listed_ne h' (by decide))
    refine StepsI.cons [2, 1] rfl (by kernel_rfl) ?_ ?_
    · intro L a x hp h0 hI K hK
      obtain ⟨v24, v25, v26, v27, v7, v8, ha, hb, f0, f1, f2, f3, f4, f5, f6, f7, e4x5⟩ := hI
      obtain rfl := f2 (hp 2 (by decide))
      have HF := Lib.hid (show _ from (⟨f0, f1, f2, f3, f4, f5, f6, f7, e4x5⟩ : _ ∧ _ ∧ _ ∧ _ ∧ _ ∧ _ ∧ _ ∧ _ ∧ _))
      clear f0 f1 f2 f3 f4 f5 f6 f7 e4x5
      rw [if_pos (by rfl)]
      simp only [ha, Act.put, List.setIfInBounds_toArray, List.set_cons_zero, List.set_cons_succ]
      clear ha
      go_simp
      go_at_call 6
      refine (own_any Y A' n' c' x (HYa.out.up hb)).mono ?_
      rintro e x' ⟨A1, n1, c1, rfl, ho1, hb'⟩
      obtain ⟨f0, f1, f2, f3, f4, f5, f6, f7, e4x5⟩ := HF.out
      refine hK.out _ _ ?_
      refine (ownI_mk v24 v25 (.agg #[.int .u8 (Y.nm.x0 : Int), .int .u8 (Y.nm.x1 : Int), .int .u8 (Y.nm.x2 : Int), .int .u8 (Y.nm.x3 : Int), .int .u8 (Y.nm.x4 : Int), .int .u8 (Y.nm.x5 : Int), .int .u8 (Y.nm.x6 : Int), .int .u8 (Y.nm.x7 : Int), .int .i64 Y.no, .int .i64 Y.h0, .int .i64 Y.h1, .slice A' n' c']) (.agg #[.int .u8 (Y.nm.x0 : Int), .int .u8 (Y.nm.x1 : Int), .int .u8 (Y.nm.x2 : Int), .int .u8 (Y.nm.x3 : Int), .int .u8 (Y.nm.x4 : Int), .int .u8 (Y.nm.x5 : Int), .int .u8 (Y.nm.x6 : Int), .int .u8 (Y.nm.x7 : Int), .int .i64 Y.no, .int .i64 Y.h0, .int .i64 Y.h1, .slice A1 n1 c1]) v7 v8 ?_ (hb.trans (hb'.mono hb.size)) ?_ ?_ ?_ ?_ ?_ ?_ ?_ ?_ ?_)
      · simp only [Act.put, List.setIfInBounds_toArray, List.set_cons_zero, List.set_cons_succ]
      · exact fun h => f0 (listed_ne h (by decide))
      · exact fun h => (f1 (listed_ne h (by decide))).below hb'
      · exact fun h => f2 (listed_ne h (by decide))
      · exact fun _ => ⟨A1, n1, c1, rfl, pown_down ho1 hb.size⟩
      · exact fun h => (f4 (listed_ne h (by decide))).below hb'
      · exact fun h => (f5 (listed_ne h (by decide))).below hb'
      · exact fun h => ⟨listed_in (f6 (listed_ne h (by decide))).1, (f6 (listed_ne h (by decide))).2.below hb'⟩
      · exact fun h => ⟨listed_in (f7 (listed_ne h (by decide))).1, (f7 (listed_ne h (by decide))).2.below hb'⟩
      · exact fun h h' => e4x5 (listed_ne h (by decide)) (listed_ne h' (by decide))
    refine StepsI.cons [] rfl (by kernel_rfl) ?_ ?_
    · intro L a x hp h0 hI K hK
      obtain ⟨v24, v25, v26, v27, v7, v8, ha, hb, f0, f1, f2, f3, f4, f5, f6, f7, e4x5⟩ := hI
      have HF := Lib.hid (show _ from (⟨f0, f1, f2, f3, f4, f5, f6, f7, e4x5⟩ : _ ∧ _ ∧ _ ∧ _ ∧ _ ∧ _ ∧ _ ∧ _ ∧ _))
      clear f0 f1 f2 f3 f4 f5 f6 f7 e4x5
      rw [if_pos (by rfl)]
      simp only [ha, Act.put, List.setIfInBounds_toArray, List.set_cons_zero, List.set_cons_succ]
      clear ha
      go_simp
      obtain ⟨f0, f1, f2, f3, f4, f5, f6, f7, e4x5⟩ := HF.out
      refine hK.out _ _ ?_
      refine (ownI_mk v24 v25 v26 v27 (.pointer (some ⟨x.heap.size, 0, none⟩)) v8 ?_ (hb.alloc hb.size _) ?_ ?_ ?_ ?_ ?_ ?_ ?_ ?_ ?_)
      · simp only [Act.put, List.setIfInBounds_toArray, List.set_cons_zero, List.set_cons_succ]
      · exact fun h => f0 (listed_ne h (by decide))
      · exact fun h => (f1 (listed_ne h (by decide))).below (below_one x _)
      · exact fun h => f2 (listed_ne h (by decide))
      · exact fun h => (f3 (listed_ne h (by decide))).below (below_one x _)
      · exact fun _ => BoxQ.new hb.size
      · exact fun h => (f5 (listed_ne h (by decide))).below (below_one x _)
      · exact fun h => absurd (f6 (listed_ne h (by decide))).1 (yet_no h0)
      · exact fun h => ⟨listed_in (f7 (listed_ne h (by decide))).1, (f7 (listed_ne h (by decide))).2.below (below_one x _)⟩
      · exact fun _ h => box_newQ (f5 (listed_ne h (by decide)))
    refine StepsI.cons [] rfl (by kernel_rfl) ?_ ?_
    · intro L a x hp h0 hI K hK
      obtain ⟨v24, v25, v26, v27, v7, v8, ha, hb, f0, f1, f2, f3, f4, f5, f6, f7, e4x5⟩ := hI
      have HF := Lib.hid (show _ from (⟨f0, f1, f2, f3, f4, f5, f6, f7, e4x5⟩ : _ ∧ _ ∧ _ ∧ _ ∧ _ ∧ _ ∧ _ ∧ _ ∧ _))
      clear f0 f1 f2 f3 f4 f5 f6 f7 e4x5
      rw [if_pos (by rfl)]
      simp only [ha, Act.put, List.setIfInBounds_toArray, List.set_cons_zero, List.set_cons_succ]
      clear ha
      go_simp
      obtain ⟨f0, f1, f2, f3, f4, f5, f6, f7, e4x5⟩ := HF.out
      refine hK.out _ _ ?_
      refine (ownI_mk v24 v25 v26 v27 v7 (.pointer (some ⟨x.heap.size, 0, none⟩)) ?_ (hb.alloc hb.size _) ?_ ?_ ?_ ?_ ?_ ?_ ?_ ?_ ?_)
      · simp only [Act.put, List.setIfInBounds_toArray, List.set_cons_zero, List.set_cons_succ]
      · exact fun h => f0 (listed_ne h (by decide))
      · exact fun h => (f1 (listed_ne h (by decide))).below (below_one x _)
      · exact fun h => f2 (listed_ne h (by decide))
      · exact fun h => (f3 (listed_ne h (by decide))).below (below_one x _)
      · exact fun h => (f4 (listed_ne h (by decide))).below (below_one x _)
      · exact fun _ => BoxQ.new hb.size
      · exact fun h => ⟨listed_in (f6 (listed_ne h (by decide))).1, (f6 (listed_ne h (by decide))).2.below (below_one x _)⟩
      · exact fun h => absurd (f7 (listed_ne h (by decide))).1 (yet_no h0)
      · exact fun h _ => (box_newQ (f4 (listed_ne h (by decide)))).symm
    refine StepsI.cons [4, 1, 3, 0, 1, 4, 5] rfl (by kernel_rfl) ?_ ?_
    · intro L a x hp h0 hI K hK
      obtain ⟨v24, v25, v26, v27, v7, v8, ha, hb, f0, f1, f2, f3, f4, f5, f6, f7, e4x5⟩ := hI
      have hbx := f4 (hp 4 (by decide))
      obtain ⟨g, cs, rfl, hgB, hG, hcs⟩ := hbx
      have esrc := f1 (hp 1 (by decide))
      obtain ⟨A1, n1, c1, rfl, ho1⟩ := esrc
      have hf := block_free hG
      have hgl := block_lt hG
      have hc3 := BoxQ.cells hG hcs
      obtain ⟨u0, u1, u2, u3, u4, u5, u6, u7, u8, u9, u10, u11, y0, y1, y2, y3, y4, y5, y6, y7, y8, y9, y10, y11⟩ := hc3
      have G1 := Lib.hid (set12Q hG hcs X A1 n1 c1)
      have HF := Lib.hid (show _ from (⟨f0, f1, f2, f3, f4, f5, f6, f7, e4x5⟩ : _ ∧ _ ∧ _ ∧ _ ∧ _ ∧ _ ∧ _ ∧ _ ∧ _))
      clear f0 f1 f2 f3 f4 f5 f6 f7 e4x5
      rw [if_pos (by rfl)]
      simp only [ha, Act.put, List.setIfInBounds_toArray, List.set_cons_zero, List.set_cons_succ]
      clear ha
      go_simp
      generalize ((((((((((((x.setCell ⟨g, 0, none⟩ (.int .u8 (X.nm.x0 : Int))).setCell ⟨g, 1, none⟩ (.int .u8 (X.nm.x1 : Int))).setCell ⟨g, 2, none⟩ (.int .u8 (X.nm.x2 : Int))).setCell ⟨g, 3, none⟩ (.int .u8 (X.nm.x3 : Int))).setCell ⟨g, 4, none⟩ (.int .u8 (X.nm.x4 : Int))).setCell ⟨g, 5, none⟩ (.int .u8 (X.nm.x5 : Int))).setCell ⟨g, 6, none⟩ (.int .u8 (X.nm.x6 : Int))).setCell ⟨g, 7, none⟩ (.int .u8 (X.nm.x7 : Int))).setCell ⟨g, 8, none⟩ (.int .i64 X.no)).setCell ⟨g, 9, none⟩ (.int .i64 X.h0)).setCell ⟨g, 10, none⟩ (.int .i64 X.h1)).setCell ⟨g, 11, none⟩ (.slice A1 n1 c1)) = x1 at *
      obtain ⟨f0, f1, f2, f3, f4, f5, f6, f7, e4x5⟩ := HF.out
      refine hK.out _ _ ?_
      refine (ownI_mk v24 (.agg #[.int .u8 (X.nm.x0 : Int), .int .u8 (X.nm.x1 : Int), .int .u8 (X.nm.x2 : Int), .int .u8 (X.nm.x3 : Int), .int .u8 (X.nm.x4 : Int), .int .u8 (X.nm.x5 : Int), .int .u8 (X.nm.x6 : Int), .int .u8 (X.nm.x7 : Int), .int .i64 X.no, .int .i64 X.h0, .int .i64 X.h1, .slice A1 n1 c1]) v26 v27 (.pointer (some ⟨g, 0, none⟩)) v8 ?_ (hb.grown G1.out.2 hb.size (fun k hk => by cases hk; exact hgB)) ?_ ?_ ?_ ?_ ?_ ?_ ?_ ?_ ?_)
      · simp only [Act.put, List.setIfInBounds_toArray, List.set_cons_zero, List.set_cons_succ]
      · exact fun h => f0 (listed_ne h (by decide))
      · exact fun h => (f1 (listed_ne h (by decide))).set G1.out.2 hG
      · exact fun h => f2 (listed_ne h (by decide))
      · exact fun h => (f3 (listed_ne h (by decide))).set G1.out.2 hG
      · exact fun h => (f4 (listed_ne h (by decide))).set G1.out.2 G1.out.1 rfl
      · exact fun h => (f5 (listed_ne h (by decide))).set G1.out.2 G1.out.1 rfl
      · exact fun _ => ⟨listed_in (hp 4 (by decide)), g, A1, n1, c1, rfl, hgB, G1.out.1, ho1.kept G1.out.2 (.inr fun e => own_ne ho1 hG (by decide) e.symm)⟩
      · exact fun h => ⟨listed_in (f7 (listed_ne h (by decide))).1, (f7 (listed_ne h (by decide))).2.set G1.out.2 hG ((e4x5 (hp 4 (by decide)) (hp 5 (by decide))).symm)⟩
      · exact fun h h' => e4x5 (listed_ne h (by decide)) (listed_ne h' (by decide))
    refine StepsI.cons [5, 3, 6, 0, 1, 2, 3, 4, 5, 6] rfl (by kernel_rfl) ?_ ?_
    · intro L a x hp h0 hI K hK
      obtain ⟨v24, v25, v26, v27, v7, v8, ha, hb, f0, f1, f2, f3, f4, f5, f6, f7, e4x5⟩ := hI
      have hbx := f5 (hp 5 (by decide))
      obtain ⟨g, cs, rfl, hgB, hG, hcs⟩ := hbx
      have esrc := f3 (hp 3 (by decide))
      obtain ⟨A1, n1, c1, rfl, ho1⟩ := esrc
      have hf := block_free hG
      have hgl := block_lt hG
      have hc3 := BoxQ.cells hG hcs
      obtain ⟨u0, u1, u2, u3, u4, u5, u6, u7, u8, u9, u10, u11, y0, y1, y2, y3, y4, y5, y6, y7, y8, y9, y10, y11⟩ := hc3
      have G1 := Lib.hid (set12Q hG hcs Y A1 n1 c1)
      have HF := Lib.hid (show _ from (⟨f0, f1, f2, f3, f4, f5, f6, f7, e4x5⟩ : _ ∧ _ ∧ _ ∧ _ ∧ _ ∧ _ ∧ _ ∧ _ ∧ _))
      clear f0 f1 f2 f3 f4 f5 f6 f7 e4x5
      rw [if_pos (by rfl)]
      simp only [ha, Act.put, List.setIfInBounds_toArray, List.set_cons_zero, List.set_cons_succ]
      clear ha
      go_simp
      generalize ((((((((((((x.setCell ⟨g, 0, none⟩ (.int .u8 (Y.nm.x0 : Int))).setCell ⟨g, 1, none⟩ (.int .u8 (Y.nm.x1 : Int))).setCell ⟨g, 2, none⟩ (.int .u8 (Y.nm.x2 : Int))).setCell ⟨g, 3, none⟩ (.int .u8 (Y.nm.x3 : Int))).setCell ⟨g, 4, none⟩ (.int .u8 (Y.nm.x4 : Int))).setCell ⟨g, 5, none⟩ (.int .u8 (Y.nm.x5 : Int))).setCell ⟨g, 6, none⟩ (.int .u8 (Y.nm.x6 : Int))).setCell ⟨g, 7, none⟩ (.int .u8 (Y.nm.x7 : Int))).setCell ⟨g, 8, none⟩ (.int .i64 Y.no)).setCell ⟨g, 9, none⟩ (.int .i64 Y.h0)).setCell ⟨g, 10, none⟩ (.int .i64 Y.h1)).setCell ⟨g, 11, none⟩ (.slice A1 n1 c1)) = x1 at *
      obtain ⟨f0, f1, f2, f3, f4, f5, f6, f7, e4x5⟩ := HF.out
      refine hK.out _ _ ?_
      refine (ownI_mk v24 v25 v26 (.agg #[.int .u8 (Y.nm.x0 : Int), .int .u8 (Y.nm.x1 : Int), .int .u8 (Y.nm.x2 : Int), .int .u8 (Y.nm.x3 : Int), .int .u8 (Y.nm.x4 : Int), .int .u8 (Y.nm.x5 : Int), .int .u8 (Y.nm.x6 : Int), .int .u8 (Y.nm.x7 : Int), .int .i64 Y.no, .int .i64 Y.h0, .int .i64 Y.h1, .slice A1 n1 c1]) v7 (.pointer (some ⟨g, 0, none⟩)) ?_ (hb.grown G1.out.2 hb.size (fun k hk => by cases hk; exact hgB)) ?_ ?_ ?_ ?_ ?_ ?_ ?_ ?_ ?_)
      · simp only [Act.put, List.setIfInBounds_toArray, List.set_cons_zero, List.set_cons_succ]
      · exact fun h => f0 (listed_ne h (by decide))
      · exact fun h => (f1 (listed_ne h (by decide))).set G1.out.2 hG
      · exact fun h => f2 (listed_ne h (by decide))
      · exact fun h => (f3 (listed_ne h (by decide))).set G1.out.2 hG
      · exact fun h => (f4 (listed_ne h (by decide))).set G1.out.2 G1.out.1 rfl
      · exact fun h => (f5 (listed_ne h (by decide))).set G1.out.2 G1.out.1 rfl
      · exact fun h => ⟨listed_in (f6 (listed_ne h (by decide))).1, (f6 (listed_ne h (by decide))).2.set G1.out.2 hG (e4x5 (hp 4 (by decide)) (hp 5 (by decide)))⟩
      · exact fun _ => ⟨listed_in (hp 5 (by decide)), g, A1, n1, c1, rfl, hgB, G1.out.1, ho1.kept G1.out.2 (.inr fun e => own_ne ho1 hG (by decide) e.symm)⟩
      · exact fun h h' => e4x5 (listed_ne h (by decide)) (listed_ne h' (by decide))
    exact StepsI.nil
  · intro L aa x hp hI
    obtain ⟨v24, v25, v26, v27, v7, v8, ha, hb, f0, f1, f2, f3, f4, f5, f6, f7, e78⟩ := hI
    obtain ⟨gx, Ax, nx, cx, rfl, hgx, hx, hox⟩ := (f6 (hp 6 (by decide))).2
    obtain ⟨gy, Ay, ny, cy, rfl, hgy, hy, hoy⟩ := (f7 (hp 7 (by decide))).2
    have hgxy := e78 (hp 4 (by decide)) (hp 5 (by decide))
    have Hx := Lib.hid hx; have Hy := Lib.hid hy; have Hb2x := Lib.hid hb
    have Hcx := Lib.hid (own_capP hox); have Hcy := Lib.hid (own_capP hoy)
    have Hox := Lib.hid hox; have Hoy := Lib.hid hoy
    clear hp f0 f1 f2 f3 f4 f5 f6 f7 e78 hx hy hb hox hoy hgxy
    simp only [ha, Act.put, List.setIfInBounds_toArray, List.set_cons_zero, List.set_cons_succ]
    clear ha HXr HYr HXa HYa
    go_wp2_with fail
    refine (newBook_any x).mono ?_
    rintro e w3 ⟨rfl, hbk, hb⟩
    have HB3 := Lib.hid hbk; have Hb3 := Lib.hid hb
    clear hbk hb
    go_wp2
    have HK5 : Hid (((w3.alloc (.cells #[.int .u8 7, .int .u8 0, .int .u8 0, .int .u8 0, .int .u8 0, .int .u8 0, .int .u8 0, .int .u8 0, .int .u8 8, .int .u8 0, .int .u8 0, .int .u8 0, .int .u8 0, .int .u8 0, .int .u8 0, .int .u8 0] 39)).alloc (.cells #[.slice none 0 0, .slice none 0 0] 41)).heap[w3.heap.size]? = some (.cells #[.int .u8 7, .int .u8 0, .int .u8 0, .int .u8 0, .int .u8 0, .int .u8 0, .int .u8 0, .int .u8 0, .int .u8 8, .int .u8 0, .int .u8 0, .int .u8 0, .int .u8 0, .int .u8 0, .int .u8 0, .int .u8 0] 39 (0, 0))) := block_alloc (heap_alloc_new w3 _) _
    have HG5 : Hid (((w3.alloc (.cells #[.int .u8 7, .int .u8 0, .int .u8 0, .int .u8 0, .int .u8 0, .int .u8 0, .int .u8 0, .int .u8 0, .int .u8 8, .int .u8 0, .int .u8 0, .int .u8 0, .int .u8 0, .int .u8 0, .int .u8 0, .int .u8 0] 39)).alloc (.cells #[.slice none 0 0, .slice none 0 0] 41)).heap[w3.heap.size + 1]? = some (.cells #[.slice none 0 0, .slice none 0 0] 41 (0, 0))) := alloc_at (by simp)
    have hb5 : Below w3.heap.size w3 ((w3.alloc (.cells #[.int .u8 7, .int .u8 0, .int .u8 0, .int .u8 0, .int .u8 0, .int .u8 0, .int .u8 0, .int .u8 0, .int .u8 8, .int .u8 0, .int .u8 0, .int .u8 0, .int .u8 0, .int .u8 0, .int .u8 0, .int .u8 0] 39)).alloc (.cells #[.slice none 0 0, .slice none 0 0] 41)) := ((Below.refl _ _).alloc (Nat.le_refl _) _).alloc (by simp) _
    have HP : Hid (PvS x w3.heap.size (w3.heap.size + 1) ((w3.alloc (.cells #[.int .u8 7, .int .u8 0, .int .u8 0, .int .u8 0, .int .u8 0, .int .u8 0, .int .u8 0, .int .u8 0, .int .u8 8, .int .u8 0, .int .u8 0, .int .u8 0, .int .u8 0, .int .u8 0, .int .u8 0, .int .u8 0] 39)).alloc (.cells #[.slice none 0 0, .slice none 0 0] 41)) [] (fun _ => .slice none 0 0) (fun _ => none)) := Lib.hid ⟨Hb3.out.trans (hb5.mono Hb3.out.size), HB3.out.below hb5, HK5.out, HG5.out, fun j hj => rfl⟩
    have hx3 := Hb3.out.size
    clear hb5 HK5 HG5 HB3
    obtain ⟨g10, hg10⟩ : ∃ g, g = w3.heap.size := ⟨_, rfl⟩
    obtain ⟨g11, hg11⟩ : ∃ g, g = w3.heap.size + 1 := ⟨_, rfl⟩
    rw [← hg11, ← hg10] at HP
    rw [← hg11, ← hg10]
    have hg11x : x.heap.size ≤ g11 := by omega
    clear hg10 hg11
    generalize (w3.alloc (.cells #[.int .u8 7, .int .u8 0, .int .u8 0, .int .u8 0, .int .u8 0, .int .u8 0, .int .u8 0, .int .u8 0, .int .u8 8, .int .u8 0, .int .u8 0, .int .u8 0, .int .u8 0, .int .u8 0, .int .u8 0, .int .u8 0] 39)).alloc (.cells #[.slice none 0 0, .slice none 0 0] 41) = w4 at *
    obtain ⟨N, hN⟩ : ∃ N : Nat → Bool, N = fun j => if j = 0 then N0 else N1 := ⟨_, rfl⟩
    obtain ⟨O, hO⟩ : ∃ O : Nat → Bool, O = fun j => if j = 0 then O0 else O1 := ⟨_, rfl⟩
    have HFN := Lib.hid (fun (k : Nat) (hk : k < 2) (u : World) (hu : Below x.heap.size x u) => show u.cell? ⟨w.heap.size + 1 + 1, k, none⟩ = some (.bool (N k)) from by
      have h1 := block_below (block_below HS2.out Hb2x.out (block_lt HS2.out)) hu (Nat.lt_of_lt_of_le (block_lt HS2.out) Hb2x.out.size)
      rw [hN]
      match k, hk with
      | 0, _ => exact block_cell h1 0
      | 1, _ => exact block_cell h1 1)
    have HFO := Lib.hid (fun (k : Nat) (hk : k < 2) (u : World) (hu : Below x.heap.size x u) => show u.cell? ⟨w.heap.size + 1 + 1, 2 + k, none⟩ = some (.bool (O k)) from by
      have h1 := block_below (block_below HS2.out Hb2x.out (block_lt HS2.out)) hu (Nat.lt_of_lt_of_le (block_lt HS2.out) Hb2x.out.size)
      rw [hO]
      match k, hk with
      | 0, _ => exact block_cell h1 2
      | 1, _ => exact block_cell h1 3)
    have HFS := Lib.hid (fun (u : World) (hu : Below x.heap.size x u) => show u.cell? ⟨w.heap.size + 1 + 1, 4, none⟩ = some (.bool sw) from block_cell (block_below (block_below HS2.out Hb2x.out (block_lt HS2.out)) hu (Nat.lt_of_lt_of_le (block_lt HS2.out) Hb2x.out.size)) 4)
    have hl5 : w.heap.size + 1 + 1 < x.heap.size := Nat.lt_of_lt_of_le (block_lt HS2.out) Hb2x.out.size
    obtain ⟨Vx, hVx⟩ : ∃ V : Value, V = .agg #[.int .u8 (X.nm.x0 : Int), .int .u8 (X.nm.x1 : Int), .int .u8 (X.nm.x2 : Int), .int .u8 (X.nm.x3 : Int), .int .u8 (X.nm.x4 : Int), .int .u8 (X.nm.x5 : Int), .int .u8 (X.nm.x6 : Int), .int .u8 (X.nm.x7 : Int), .int .i64 X.no, .int .i64 X.h0, .int .i64 X.h1, .slice Ax nx cx] := ⟨_, rfl⟩
    obtain ⟨Vy, hVy⟩ : ∃ V : Value, V = .agg #[.int .u8 (Y.nm.x0 : Int), .int .u8 (Y.nm.x1 : Int), .int .u8 (Y.nm.x2 : Int), .int .u8 (Y.nm.x3 : Int), .int .u8 (Y.nm.x4 : Int), .int .u8 (Y.nm.x5 : Int), .int .u8 (Y.nm.x6 : Int), .int .u8 (Y.nm.x7 : Int), .int .i64 Y.no, .int .i64 Y.h0, .int .i64 Y.h1, .slice Ay ny cy] := ⟨_, rfl⟩
    have HLX := Lib.hid (fun (u : World) (hu : Below x.heap.size x u) => show (Instr.loadAt 35 (.pointer (some ⟨gx, 0, none⟩))).run Try.prog u = .ok Vx u from by rw [hVx]; exact loadPu (block_below Hx.out hu (block_lt Hx.out)))
    have HLY := Lib.hid (fun (u : World) (hu : Below x.heap.size x u) => show (Instr.loadAt 35 (.pointer (some ⟨gy, 0, none⟩))).run Try.prog u = .ok Vy u from by rw [hVy]; exact loadPu (block_below Hy.out hu (block_lt Hy.out)))
    have HAX := Lib.hid (fun (u : World) (hu : Below x.heap.size x u) => show PuV.At X Ax nx cx u from ⟨Rd.of_own (own_below Hox.out hu), Hcx.out, by have := Hox.out.1; rw [flatH_len] at this; have := Hlx.out; omega⟩)
    have HAY := Lib.hid (fun (u : World) (hu : Below x.heap.size x u) => show PuV.At Y Ay ny cy u from ⟨Rd.of_own (own_below Hoy.out hu), Hcy.out, by have := Hoy.out.1; rw [flatH_len] at this; have := Hly.out; omega⟩)
    obtain ⟨dX, hdX⟩ : ∃ d, d = X.digest := ⟨_, rfl⟩
    obtain ⟨dY, hdY⟩ : ∃ d, d = Y.digest := ⟨_, rfl⟩
    have HDX := Lib.hid (fun (u : World) (hu : Below x.heap.size x u) => show Calls Try.prog 9 #[Vx] u fun e w' => e = .returned (.agg #[.int .u8 (dX.x0 : Int), .int .u8 (dX.x1 : Int), .int .u8 (dX.x2 : Int), .int .u8 (dX.x3 : Int), .int .u8 (dX.x4 : Int), .int .u8 (dX.x5 : Int), .int .u8 (dX.x6 : Int), .int .u8 (dX.x7 : Int)]) ∧ Below u.heap.size u w' from by rw [hVx, hdX]; exact digest_any X Ax nx cx u (HAX.out u hu) HbX.out)
    have HDY := Lib.hid (fun (u : World) (hu : Below x.heap.size x u) => show Calls Try.prog 9 #[Vy] u fun e w' => e = .returned (.agg #[.int .u8 (dY.x0 : Int), .int .u8 (dY.x1 : Int), .int .u8 (dY.x2 : Int), .int .u8 (dY.x3 : Int), .int .u8 (dY.x4 : Int), .int .u8 (dY.x5 : Int), .int .u8 (dY.x6 : Int), .int .u8 (dY.x7 : Int)]) ∧ Below u.heap.size u w' from by rw [hVy, hdY]; exact digest_any Y Ay ny cy u (HAY.out u hu) HbY.out)
    have HdX : Hid dX.ok := Lib.hid (by rw [hdX]; exact digest_ok X)
    have HdY : Hid dY.ok := Lib.hid (by rw [hdY]; exact digest_ok Y)
    have HVx := Lib.hid hVx; have HVy := Lib.hid hVy; have HeX := Lib.hid hdX; have HeY := Lib.hid hdY; have HeN := Lib.hid hN; have HeO := Lib.hid hO
    clear hVx hVy hdX hdY hN hO
    have hbkx := x.heap.size + 1
    have hna := fun k => nil_sign (x.heap.size + 1) k
    have hme := fun k => meth_sign (x.heap.size + 1) k
    rw [types_many] at hna hme
    have Hne := Lib.hid (And.intro hna hme)
    clear hna hme hbkx
    go_loopw [12, 13] (fun sv iv wr => ∃ (k : Nat) (L : List En) (V : Nat → Value) (q : Nat → Option Nat), k ≤ 2 ∧ sv = .bool (sgAll N O dX dY k) ∧ iv = .int .i64 (k : Int) ∧ Hid (PvS x g10 g11 wr L V q) ∧ Hid (SgI N O dX dY k L q) ∧ Hid (∀ j, k ≤ j → q j = none)) (fun _ iv _ => 2 - (RowKit.intOf iv).toNat)
    case atStart => exact ⟨0, [], _, _, by decide, rfl, rfl, HP, Lib.hid (SgI.start N O dX dY _), Lib.hid (fun _ _ => rfl)⟩
    case round =>
      obtain ⟨k, L, V, q, hk, rfl, rfl, HPk, HI, HQn⟩ := hrel
      by_cases hlt : k < 2
      · have hd1 : decide ((k : Int) < 2) = true := decide_eq_true (by omega)
        have hki : (k : Int) < 2 := by omega
        obtain ⟨y0, y1, y2, y3, y4, y5, y6, y7⟩ := key_cells HPk.out.keys hlt
        have hl10 := block_lt HPk.out.keys
        go_wp2_with fail
        refine (signer_any (kS k) (x.heap.size + 1) wr).mono ?_
        rintro e w5 ⟨rfl, hb⟩
        have HPs := Lib.hid (HPk.out.below hb)
        clear hb y0 y1 y2 y3 y4 y5 y6 y7 hl10 HPk
        have Hlen : Hid (L.length ≤ 4) := Lib.hid (by have := HI.out.len; omega)
        obtain ⟨hna, hme⟩ := Hne.out
        cases hOk : O k with
        | true =>
          have yo := (HFO.out k hlt w5 HPs.out.low).trans (by rw [hOk])
          have hl5' : w.heap.size + 1 + 1 < w5.heap.size := Nat.lt_of_lt_of_le hl5 HPs.out.low.size
          have HOk := Lib.hid hOk
          clear hOk
          go_upto_region 17 with fail
          clear yo hl5'
          have hlv := HLX.out
          have HPa := Lib.hid (HPs.out.below (Below.refl _ _).drew)
          have hS1 := HPa.out.low
          refine wp_region_held_drew (S := fun w' => Below x.heap.size x w') (by kernel_rfl) hS1 (fun hHeld => ?_)
          rw [show Array.replicate _ false = (#[false, false, false, false, false, false, false, false, false, false, false, false, false] : Array Bool) from rfl]
          generalize hws : World.drew _ = v0 at *
          clear hws
          refine takeH 0 (some 50) (v := ?_) rfl (by kernel_rfl) (by kernel_rfl) (by kernel_rfl) (by kernel_rfl) (fun _ _ _ h => h) (Or.inl ⟨by kernel_rfl, ?hy⟩) (by assumption) ?_
          case hy =>
            intro w' hSw
            clear hSw
            first
              | (go_simp; done)
              | (go_simp; with_reducible rfl)
          simp only [Act.put, List.setIfInBounds_toArray, List.set_cons_zero, List.set_cons_succ]
          refine takeH 1 (some 51) (v := ?_) rfl (by kernel_rfl) (by kernel_rfl) (by kernel_rfl) (by kernel_rfl) (fun _ _ _ h => h) (Or.inl ⟨by kernel_rfl, ?hy⟩) (by assumption) ?_
          case hy =>
            intro w' hSw
            clear hSw
            first
              | (go_simp; done)
              | (go_simp; with_reducible rfl)
          simp only [Act.put, List.setIfInBounds_toArray, List.set_cons_zero, List.set_cons_succ]
          refine takeH 2 (some 52) (v := Vx) rfl (by kernel_rfl) (by kernel_rfl) (by kernel_rfl) (by kernel_rfl) (fun _ _ _ h => h) (Or.inl ⟨by kernel_rfl, ?hy⟩) (by assumption) ?_
          case hy =>
            intro w' hSw
            simp [execOp, Act.eval, hlv w' hSw, Result.andThen]
          simp only [Act.put, List.setIfInBounds_toArray, List.set_cons_zero, List.set_cons_succ]
          refine takeH 4 (some 54) (v := ?_) rfl (by kernel_rfl) (by kernel_rfl) (by kernel_rfl) (by kernel_rfl) (fun _ _ _ h => h) (Or.inl ⟨by kernel_rfl, ?hy⟩) (by assumption) ?_
          case hy =>
            intro w' hSw
            clear hSw
            first
              | (go_simp; done)
              | (go_simp; with_reducible rfl)
          simp only [Act.put, List.setIfInBounds_toArray, List.set_cons_zero, List.set_cons_succ]
          refine takeH 5 (some 55) (v := ?_) rfl (by kernel_rfl) (by kernel_rfl) (by kernel_rfl) (by kernel_rfl) (fun _ _ _ h => h) (Or.inl ⟨by kernel_rfl, ?hy⟩) (by assumption) ?_
          case hy =>
            intro w' hSw
            clear hSw
            first
              | (go_simp; done)
              | (go_simp; with_reducible rfl)
          simp only [Act.put, List.setIfInBounds_toArray, List.set_cons_zero, List.set_cons_succ]
          refine takeH 6 (some 56) (v := ?_) rfl (by kernel_rfl) (by kernel_rfl) (by kernel_rfl) (by kernel_rfl) (fun _ _ _ h => h) (Or.inl ⟨by kernel_rfl, ?hy⟩) (by assumption) ?_
          case hy =>
            intro w' hSw
            clear hSw
            first
              | (go_simp; done)
              | (go_simp; with_reducible rfl)
          simp only [Act.put, List.setIfInBounds_toArray, List.set_cons_zero, List.set_cons_succ]
          clear hS1 hlv
          refine wpAnyH_ready (rs := [3]) (by kernel_rfl) (by simp) ?_
          refine AllReadyH.cons rfl (fun K hK => ?_) AllReadyH.nil
          rw [if_pos (by kernel_rfl)]
          go_simp
          refine (HDX.out v0 HPa.out.low).mono ?_
          rintro e v1 ⟨rfl, hb⟩
          have HPb := Lib.hid (HPa.out.below hb)
          clear hb
          refine hK.out _ _ HPb.out.low (fun _ => ?_)
          clear hK K
          simp only [List.setIfInBounds_toArray, List.set_cons_zero, List.set_cons_succ]
          refine wpAnyH_ready (rs := [7]) (by kernel_rfl) (by simp) ?_
          refine AllReadyH.cons rfl (fun K hK => ?_) AllReadyH.nil
          rw [if_pos (by kernel_rfl)]
          go_simp
          refine (wsign_any _ _ _ L (kS k) dX v1 HPb.out.book (kS_ok hlt) HdX.out (by have := Hlen.out; omega)).mono ?_
          rintro e v2 ⟨gs, rfl, h1, h2, h3, h4⟩
          have HPc := Lib.hid (HPb.out.kept h4 h3)
          have HSg := Lib.hid h2
          clear h1 h2 h3 h4
          refine hK.out _ _ HPc.out.low (fun _ => ?_)
          clear hK K
          simp only [List.setIfInBounds_toArray, List.set_cons_zero, List.set_cons_succ]
          have hS1 := HPc.out.low
          refine takeH 8 (some 49) (v := ?_) rfl (by kernel_rfl) (by kernel_rfl) (by kernel_rfl) (by kernel_rfl) (fun _ _ _ h => h) (Or.inl ⟨by kernel_rfl, ?hy⟩) (by assumption) ?_
          case hy =>
            intro w' hSw
            clear hSw
            first
              | (go_simp; done)
              | (go_simp; with_reducible rfl)
          simp only [Act.put, List.setIfInBounds_toArray, List.set_cons_zero, List.set_cons_succ]
          refine takeH 9 (some 58) (v := ?_) rfl (by kernel_rfl) (by kernel_rfl) (by kernel_rfl) (by kernel_rfl) (fun _ _ _ h => h) (Or.inl ⟨by kernel_rfl, ?hy⟩) (by assumption) ?_
          case hy =>
            intro w' hSw
            clear hSw
            first
              | (go_simp; done)
              | (go_simp; with_reducible rfl)
          simp only [Act.put, List.setIfInBounds_toArray, List.set_cons_zero, List.set_cons_succ]
          refine takeH 10 (some 59) (v := ?_) rfl (by kernel_rfl) (by kernel_rfl) (by kernel_rfl) (by kernel_rfl) (fun _ _ _ h => h) (Or.inl ⟨by kernel_rfl, ?hy⟩) (by assumption) ?_
          case hy =>
            intro w' hSw
            clear hSw
            first
              | (go_simp; done)
              | (go_simp; with_reducible rfl)
          simp only [Act.put, List.setIfInBounds_toArray, List.set_cons_zero, List.set_cons_succ]
          refine takeH 11 (some 60) (v := ?_) rfl (by kernel_rfl) (by kernel_rfl) (by kernel_rfl) (by kernel_rfl) (fun _ _ _ h => h) (Or.inl ⟨by kernel_rfl, ?hy⟩) (by assumption) ?_
          case hy =>
            intro w' hSw
            clear hSw
            first
              | (go_simp; done)
              | (go_simp; with_reducible rfl)
          simp only [Act.put, List.setIfInBounds_toArray, List.set_cons_zero, List.set_cons_succ]
          clear hS1
          have yf := block_free HPc.out.sigs; have yl := block_lt HPc.out.sigs; have yc := two_cell HPc.out.sigs hlt
          refine wpAnyH_ready (rs := [12]) (by kernel_rfl) (by simp) ?_
          refine AllReadyH.cons rfl (fun K hK => ?_) AllReadyH.nil
          rw [if_pos (by kernel_rfl)]
          go_simp
          have HPd := Lib.hid (HPc.out.set hlt (v := .slice (some ⟨gs, 0, none⟩) 2 2) (o := some (signE L ⟨kS k, dX⟩).2) ⟨gs, rfl, HSg.out⟩ hg11x)
          obtain ⟨w7, hw7⟩ : ∃ u, u = v2.setCell ⟨g11, k, none⟩ (.slice (some ⟨gs, 0, none⟩) 2 2) := ⟨_, rfl⟩
          rw [← hw7] at HPd
          rw [← hw7]
          clear hw7 yf yl yc HPc HPb HPa HSg HPs
          refine hK.out _ _ HPd.out.low (fun _ => ?_)
          clear hK K
          simp only [List.setIfInBounds_toArray, List.set_cons_zero, List.set_cons_succ]
          refine wpAnyH_done (by kernel_rfl) ?_ _
          obtain ⟨V1, HPs⟩ : ∃ V1, Hid (PvS x g10 g11 w7 (oldL true (kS k) dX L) V1 (putQ q k (oldQ true (kS k) dX L))) := ⟨_, HPd⟩
          clear HPd
          have HNx0 := Lib.hid (show SgI N O dX dY (k + 1) (oldL (N k) (kS k) dY (oldL true (kS k) dX L)) (putQ q k (newQ (N k) (kS k) dY (oldL true (kS k) dX L) (oldQ true (kS k) dX L))) from by have h1 := HI.out.next; rw [HOk.out] at h1; exact h1)
          have hL1 := oldL_len true (kS k) dX L
          have hL0 := Hlen.out
          clear Hlen
          have Hlen : Hid ((oldL true (kS k) dX L).length ≤ 5) := Lib.hid (by omega)
          clear hL1 hL0
          generalize oldL true (kS k) dX L = L1 at *
          generalize oldQ true (kS k) dX L = Q1 at *
          cases hNk : N k with
          | true =>
            have HNk := Lib.hid hNk
            have HNx := Lib.hid (show SgI N O dX dY (k + 1) (oldL true (kS k) dY L1) (putQ q k (newQ true (kS k) dY L1 Q1)) from by have h1 := HNx0.out; rw [hNk] at h1; exact h1)
            have yn := (HFN.out k hlt _ HPs.out.low).trans (by rw [hNk])
            have hl5' := Nat.lt_of_lt_of_le hl5 HPs.out.low.size
            clear hNk
            go_upto_region 19 with fail
            clear yn hl5'
            have hlv := HLY.out
            have HPa := Lib.hid (HPs.out.below (Below.refl _ _).drew)
            have hS1 := HPa.out.low
            refine wp_region_held_drew (S := fun w' => Below x.heap.size x w') (by kernel_rfl) hS1 (fun hHeld => ?_)
            rw [show Array.replicate _ false = (#[false, false, false, false, false, false, false, false, false, false, false, false, false] : Array Bool) from rfl]
            generalize hws : World.drew _ = v0 at *
            clear hws
            refine takeH 0 (some 66) (v := ?_) rfl (by kernel_rfl) (by kernel_rfl) (by kernel_rfl) (by kernel_rfl) (fun _ _ _ h => h) (Or.inl ⟨by kernel_rfl, ?hy⟩) (by assumption) ?_
            case hy =>
              intro w' hSw
              clear hSw
              first
                | (go_simp; done)
                | (go_simp; with_reducible rfl)
            simp only [Act.put, List.setIfInBounds_toArray, List.set_cons_zero, List.set_cons_succ]
            refine takeH 1 (some 67) (v := ?_) rfl (by kernel_rfl) (by kernel_rfl) (by kernel_rfl) (by kernel_rfl) (fun _ _ _ h => h) (Or.inl ⟨by kernel_rfl, ?hy⟩) (by assumption) ?_
            case hy =>
              intro w' hSw
              clear hSw
              first
                | (go_simp; done)
                | (go_simp; with_reducible rfl)
            simp only [Act.put, List.setIfInBounds_toArray, List.set_cons_zero, List.set_cons_succ]
            refine takeH 2 (some 68) (v := Vy) rfl (by kernel_rfl) (by kernel_rfl) (by kernel_rfl) (by kernel_rfl) (fun _ _ _ h => h) (Or.inl ⟨by kernel_rfl, ?hy⟩) (by assumption) ?_
            case hy =>
              intro w' hSw
              simp [execOp, Act.eval, hlv w' hSw, Result.andThen]
            simp only [Act.put, List.setIfInBounds_toArray, List.set_cons_zero, List.set_cons_succ]
            refine takeH 4 (some 70) (v := ?_) rfl (by kernel_rfl) (by kernel_rfl) (by kernel_rfl) (by kernel_rfl) (fun _ _ _ h => h) (Or.inl ⟨by kernel_rfl, ?hy⟩) (by assumption) ?_
            case hy =>
              intro w' hSw
              clear hSw
              first
                | (go_simp; done)
                | (go_simp; with_reducible rfl)
            simp only [Act.put, List.setIfInBounds_toArray, List.set_cons_zero, List.set_cons_succ]
            refine takeH 5 (some 71) (v := ?_) rfl (by kernel_rfl) (by kernel_rfl) (by kernel_rfl) (by kernel_rfl) (fun _ _ _ h => h) (Or.inl ⟨by kernel_rfl, ?hy⟩) (by assumption) ?_
            case hy =>
              intro w' hSw
              clear hSw
              first
                | (go_simp; done)
                | (go_simp; with_reducible rfl)
            simp only [Act.put, List.setIfInBounds_toArray, List.set_cons_zero, List.set_cons_succ]
            refine takeH 6 (some 72) (v := ?_) rfl (by kernel_rfl) (by kernel_rfl) (by kernel_rfl) (by kernel_rfl) (fun _ _ _ h => h) (Or.inl ⟨by kernel_rfl, ?hy⟩) (by assumption) ?_
            case hy =>
              intro w' hSw
              clear hSw
              first
                | (go_simp; done)
                | (go_simp; with_reducible rfl)
            simp only [Act.put, List.setIfInBounds_toArray, List.set_cons_zero, List.set_cons_succ]
            clear hS1 hlv
            refine wpAnyH_ready (rs := [3]) (by kernel_rfl) (by simp) ?_
            refine AllReadyH.cons rfl (fun K hK => ?_) AllReadyH.nil
            rw [if_pos (by kernel_rfl)]
            go_simp
            refine (HDY.out v0 HPa.out.low).mono ?_
            rintro e v1 ⟨rfl, hb⟩
            have HPb := Lib.hid (HPa.out.below hb)
            clear hb
            refine hK.out _ _ HPb.out.low (fun _ => ?_)
            clear hK K
            simp only [List.setIfInBounds_toArray, List.set_cons_zero, List.set_cons_succ]
            refine wpAnyH_ready (rs := [7]) (by kernel_rfl) (by simp) ?_
            refine AllReadyH.cons rfl (fun K hK => ?_) AllReadyH.nil
            rw [if_pos (by kernel_rfl)]
            go_simp
            refine (wsign_any _ _ _ L1 (kS k) dY v1 HPb.out.book (kS_ok hlt) HdY.out (by have := Hlen.out; omega)).mono ?_
            rintro e v2 ⟨gs, rfl, h1, h2, h3, h4⟩
            have HPc := Lib.hid (HPb.out.kept h4 h3)
            have HSg := Lib.hid h2
            clear h1 h2 h3 h4
            refine hK.out _ _ HPc.out.low (fun _ => ?_)
            clear hK K
            simp only [List.setIfInBounds_toArray, List.set_cons_zero, List.set_cons_succ]
            have hS1 := HPc.out.low
            refine takeH 8 (some 65) (v := ?_) rfl (by kernel_rfl) (by kernel_rfl) (by kernel_rfl) (by kernel_rfl) (fun _ _ _ h => h) (Or.inl ⟨by kernel_rfl, ?hy⟩) (by assumption) ?_
            case hy =>
              intro w' hSw
              clear hSw
              first
                | (go_simp; done)
                | (go_simp; with_reducible rfl)
            simp only [Act.put, List.setIfInBounds_toArray, List.set_cons_zero, List.set_cons_succ]
            refine takeH 9 (some 74) (v := ?_) rfl (by kernel_rfl) (by kernel_rfl) (by kernel_rfl) (by kernel_rfl) (fun _ _ _ h => h) (Or.inl ⟨by kernel_rfl, ?hy⟩) (by assumption) ?_
            case hy =>
              intro w' hSw
              clear hSw
              first
                | (go_simp; done)
                | (go_simp; with_reducible rfl)
            simp only [Act.put, List.setIfInBounds_toArray, List.set_cons_zero, List.set_cons_succ]
            refine takeH 10 (some 75) (v := ?_) rfl (by kernel_rfl) (by kernel_rfl) (by kernel_rfl) (by kernel_rfl) (fun _ _ _ h => h) (Or.inl ⟨by kernel_rfl, ?hy⟩) (by assumption) ?_
            case hy =>
              intro w' hSw
              clear hSw
              first
                | (go_simp; done)
                | (go_simp; with_reducible rfl)
            simp only [Act.put, List.setIfInBounds_toArray, List.set_cons_zero, List.set_cons_succ]
            refine takeH 11 (some 76) (v := ?_) rfl (by kernel_rfl) (by kernel_rfl) (by kernel_rfl) (by kernel_rfl) (fun _ _ _ h => h) (Or.inl ⟨by kernel_rfl, ?hy⟩) (by assumption) ?_
            case hy =>
              intro w' hSw
              clear hSw
              first
                | (go_simp; done)
                | (go_simp; with_reducible rfl)
            simp only [Act.put, List.setIfInBounds_toArray, List.set_cons_zero, List.set_cons_succ]
            clear hS1
            have yf := block_free HPc.out.sigs; have yl := block_lt HPc.out.sigs; have yc := two_cell HPc.out.sigs hlt
            refine wpAnyH_ready (rs := [12]) (by kernel_rfl) (by simp) ?_
            refine AllReadyH.cons rfl (fun K hK => ?_) AllReadyH.nil
            rw [if_pos (by kernel_rfl)]
            go_simp
            have HPd := Lib.hid (HPc.out.set hlt (v := .slice (some ⟨gs, 0, none⟩) 2 2) (o := some (signE L1 ⟨kS k, dY⟩).2) ⟨gs, rfl, HSg.out⟩ hg11x)
            obtain ⟨w9, hw9⟩ : ∃ u, u = v2.setCell ⟨g11, k, none⟩ (.slice (some ⟨gs, 0, none⟩) 2 2) := ⟨_, rfl⟩
            rw [← hw9] at HPd
            rw [← hw9]
            clear hw9 yf yl yc HPc HPb HPa HSg
            refine hK.out _ _ HPd.out.low (fun _ => ?_)
            clear hK K
            simp only [List.setIfInBounds_toArray, List.set_cons_zero, List.set_cons_succ]
            refine wpAnyH_done (by kernel_rfl) ?_ _
            rw [putQ_putQ] at HPd
            obtain ⟨V2, HPe⟩ : ∃ V2, Hid (PvS x g10 g11 w9 (oldL true (kS k) dY L1) V2 (putQ q k (newQ true (kS k) dY L1 Q1))) := ⟨_, HPd⟩
            clear HPd
            cases hsg : sgAll N O dX dY k with
            | false =>
              have HSG := Lib.hid hsg
              clear hsg
              go_upto_region 20 with fail
              have HPf := Lib.hid (HPe.out.below (Below.refl _ _).drew)
              have hS1 := HPf.out.low
              refine wp_region_held_drew (S := fun w' => Below x.heap.size x w') (by kernel_rfl) hS1 (fun hHeld => ?_)
              rw [show Array.replicate _ false = (#[false, false, false, false, false, false, false, false, false, false, false, false, false, false, false, false, false, false, false, false, false] : Array Bool) from rfl]
              generalize hws : World.drew _ = z0 at *
              clear hws
              refine takeH 0 (some 77) (v := ?_) rfl (by kernel_rfl) (by kernel_rfl) (by kernel_rfl) (by kernel_rfl) (fun _ _ _ h => h) (Or.inl ⟨by kernel_rfl, ?hy⟩) (by assumption) ?_
              case hy =>
                intro w' hSw
                clear hSw
                first
                  | (go_simp; done)
                  | (go_simp; with_reducible rfl)
              simp only [Act.put, List.setIfInBounds_toArray, List.set_cons_zero, List.set_cons_succ]
              refine takeH 1 (some 78) (v := ?_) rfl (by kernel_rfl) (by kernel_rfl) (by kernel_rfl) (by kernel_rfl) (fun _ _ _ h => h) (Or.inl ⟨by kernel_rfl, ?hy⟩) (by assumption) ?_
              case hy =>
                intro w' hSw
                clear hSw
                first
                  | (go_simp; done)
                  | (go_simp; with_reducible rfl)
              simp only [Act.put, List.setIfInBounds_toArray, List.set_cons_zero, List.set_cons_succ]
              refine takeH 2 (some 79) (v := undef) rfl (by kernel_rfl) (by kernel_rfl) (by kernel_rfl) (by kernel_rfl) (fun _ _ _ h => h) (Or.inr ⟨by kernel_rfl, rfl⟩) (by assumption) ?_
              simp only [Act.put, List.setIfInBounds_toArray, List.set_cons_zero, List.set_cons_succ]
              refine takeH 3 (some 80) (v := undef) rfl (by kernel_rfl) (by kernel_rfl) (by kernel_rfl) (by kernel_rfl) (fun _ _ _ h => h) (Or.inr ⟨by kernel_rfl, rfl⟩) (by assumption) ?_
              simp only [Act.put, List.setIfInBounds_toArray, List.set_cons_zero, List.set_cons_succ]
              refine takeH 4 (some 81) (v := undef) rfl (by kernel_rfl) (by kernel_rfl) (by kernel_rfl) (by kernel_rfl) (fun _ _ _ h => h) (Or.inr ⟨by kernel_rfl, rfl⟩) (by assumption) ?_
              simp only [Act.put, List.setIfInBounds_toArray, List.set_cons_zero, List.set_cons_succ]
              refine takeH 5 (some 82) (v := undef) rfl (by kernel_rfl) (by kernel_rfl) (by kernel_rfl) (by kernel_rfl) (fun _ _ _ h => h) (Or.inr ⟨by kernel_rfl, rfl⟩) (by assumption) ?_
              simp only [Act.put, List.setIfInBounds_toArray, List.set_cons_zero, List.set_cons_succ]
              refine takeH 6 (some 83) (v := undef) rfl (by kernel_rfl) (by kernel_rfl) (by kernel_rfl) (by kernel_rfl) (fun _ _ _ h => h) (Or.inr ⟨by kernel_rfl, rfl⟩) (by assumption) ?_
              simp only [Act.put, List.setIfInBounds_toArray, List.set_cons_zero, List.set_cons_succ]
              refine takeH 7 (some 84) (v := undef) rfl (by kernel_rfl) (by kernel_rfl) (by kernel_rfl) (by kernel_rfl) (fun _ _ _ h => h) (Or.inr ⟨by kernel_rfl, rfl⟩) (by assumption) ?_
              simp only [Act.put, List.setIfInBounds_toArray, List.set_cons_zero, List.set_cons_succ]
              refine takeH 8 (some 85) (v := undef) rfl (by kernel_rfl) (by kernel_rfl) (by kernel_rfl) (by kernel_rfl) (fun _ _ _ h => h) (Or.inr ⟨by kernel_rfl, rfl⟩) (by assumption) ?_
              simp only [Act.put, List.setIfInBounds_toArray, List.set_cons_zero, List.set_cons_succ]
              refine takeH 9 (some 86) (v := undef) rfl (by kernel_rfl) (by kernel_rfl) (by kernel_rfl) (by kernel_rfl) (fun _ _ _ h => h) (Or.inr ⟨by kernel_rfl, rfl⟩) (by assumption) ?_
              simp only [Act.put, List.setIfInBounds_toArray, List.set_cons_zero, List.set_cons_succ]
              refine takeH 10 (some 87) (v := undef) rfl (by kernel_rfl) (by kernel_rfl) (by kernel_rfl) (by kernel_rfl) (fun _ _ _ h => h) (Or.inr ⟨by kernel_rfl, rfl⟩) (by assumption) ?_
              simp only [Act.put, List.setIfInBounds_toArray, List.set_cons_zero, List.set_cons_succ]
              refine takeH 11 (some 88) (v := undef) rfl (by kernel_rfl) (by kernel_rfl) (by kernel_rfl) (by kernel_rfl) (fun _ _ _ h => h) (Or.inr ⟨by kernel_rfl, rfl⟩) (by assumption) ?_
              simp only [Act.put, List.setIfInBounds_toArray, List.set_cons_zero, List.set_cons_succ]
              refine takeH 12 (some 89) (v := undef) rfl (by kernel_rfl) (by kernel_rfl) (by kernel_rfl) (by kernel_rfl) (fun _ _ _ h => h) (Or.inr ⟨by kernel_rfl, rfl⟩) (by assumption) ?_
              simp only [Act.put, List.setIfInBounds_toArray, List.set_cons_zero, List.set_cons_succ]
              refine takeH 13 (some 90) (v := undef) rfl (by kernel_rfl) (by kernel_rfl) (by kernel_rfl) (by kernel_rfl) (fun _ _ _ h => h) (Or.inr ⟨by kernel_rfl, rfl⟩) (by assumption) ?_
              simp only [Act.put, List.setIfInBounds_toArray, List.set_cons_zero, List.set_cons_succ]
              refine takeH 14 (some 91) (v := undef) rfl (by kernel_rfl) (by kernel_rfl) (by kernel_rfl) (by kernel_rfl) (fun _ _ _ h => h) (Or.inr ⟨by kernel_rfl, rfl⟩) (by assumption) ?_
              simp only [Act.put, List.setIfInBounds_toArray, List.set_cons_zero, List.set_cons_succ]
              refine takeH 15 (some 92) (v := undef) rfl (by kernel_rfl) (by kernel_rfl) (by kernel_rfl) (by kernel_rfl) (fun _ _ _ h => h) (Or.inr ⟨by kernel_rfl, rfl⟩) (by assumption) ?_
              simp only [Act.put, List.setIfInBounds_toArray, List.set_cons_zero, List.set_cons_succ]
              refine takeH 16 (some 93) (v := undef) rfl (by kernel_rfl) (by kernel_rfl) (by kernel_rfl) (by kernel_rfl) (fun _ _ _ h => h) (Or.inr ⟨by kernel_rfl, rfl⟩) (by assumption) ?_
              simp only [Act.put, List.setIfInBounds_toArray, List.set_cons_zero, List.set_cons_succ]
              refine takeH 17 (some 94) (v := undef) rfl (by kernel_rfl) (by kernel_rfl) (by kernel_rfl) (by kernel_rfl) (fun _ _ _ h => h) (Or.inr ⟨by kernel_rfl, rfl⟩) (by assumption) ?_
              simp only [Act.put, List.setIfInBounds_toArray, List.set_cons_zero, List.set_cons_succ]
              refine takeH 18 (some 95) (v := undef) rfl (by kernel_rfl) (by kernel_rfl) (by kernel_rfl) (by kernel_rfl) (fun _ _ _ h => h) (Or.inr ⟨by kernel_rfl, rfl⟩) (by assumption) ?_
              simp only [Act.put, List.setIfInBounds_toArray, List.set_cons_zero, List.set_cons_succ]
              refine takeH 19 (some 96) (v := ?_) rfl (by kernel_rfl) (by kernel_rfl) (by kernel_rfl) (by kernel_rfl) (fun _ _ _ h => h) (Or.inl ⟨by kernel_rfl, ?hy⟩) (by assumption) ?_
              case hy =>
                intro w' hSw
                clear hSw
                first
                  | (go_simp; done)
                  | (go_simp; with_reducible rfl)
              simp only [Act.put, List.setIfInBounds_toArray, List.set_cons_zero, List.set_cons_succ]
              refine takeH 20 (some 12) (v := ?_) rfl (by kernel_rfl) (by kernel_rfl) (by kernel_rfl) (by kernel_rfl) (fun _ _ _ h => h) (Or.inl ⟨by kernel_rfl, ?hy⟩) (by assumption) ?_
              case hy =>
                intro w' hSw
                clear hSw
                first
                  | (go_simp; done)
                  | (go_simp; with_reducible rfl)
              simp only [Act.put, List.setIfInBounds_toArray, List.set_cons_zero, List.set_cons_succ]
              refine wpAnyH_done (by kernel_rfl) ?_ _
              clear hS1
              go_wp2
              go_roundw
              case rel => exact ⟨k + 1, _, _, _, by omega, by rw [sgAll_succ, HSG.out]; rfl, by go_num, HPf, HNx, Lib.hid (fun j hj => by rw [putQ_far (by omega)]; exact HQn.out j (by omega))⟩
              case measure => simp [RowKit.intOf]; omega
            | true =>
              have HSG := Lib.hid hsg
              clear hsg
              have hfn : ∀ w', Below x.heap.size x w' → w'.cell? ⟨w.heap.size + 1 + 1, k, none⟩ = some (.bool true) := fun w' hw => (HFN.out k hlt w' hw).trans (by rw [HNk.out])
              go_upto_region 20 with fail
              have HPf := Lib.hid (HPe.out.below (Below.refl _ _).drew)
              have hS1 := HPf.out.low
              refine wp_region_held_drew (S := fun w' => Below x.heap.size x w') (by kernel_rfl) hS1 (fun hHeld => ?_)
              rw [show Array.replicate _ false = (#[false, false, false, false, false, false, false, false, false, false, false, false, false, false, false, false, false, false, false, false, false] : Array Bool) from rfl]
              generalize hws : World.drew _ = z0 at *
              clear hws
              refine takeH 0 (some 77) (v := ?_) rfl (by kernel_rfl) (by kernel_rfl) (by kernel_rfl) (by kernel_rfl) (fun _ _ _ h => h) (Or.inl ⟨by kernel_rfl, ?hy⟩) (by assumption) ?_
              case hy =>
                intro w' hSw
                clear hSw
                first
                  | (go_simp; done)
                  | (go_simp; with_reducible rfl)
              simp only [Act.put, List.setIfInBounds_toArray, List.set_cons_zero, List.set_cons_succ]
              refine takeH 1 (some 78) (v := ?_) rfl (by kernel_rfl) (by kernel_rfl) (by kernel_rfl) (by kernel_rfl) (fun _ _ _ h => h) (Or.inl ⟨by kernel_rfl, ?hy⟩) (by assumption) ?_
              case hy =>
                intro w' hSw
                clear hSw
                first
                  | (go_simp; done)
                  | (go_simp; with_reducible rfl)
              simp only [Act.put, List.setIfInBounds_toArray, List.set_cons_zero, List.set_cons_succ]
              refine takeH 2 (some 79) (v := ?_) rfl (by kernel_rfl) (by kernel_rfl) (by kernel_rfl) (by kernel_rfl) (fun _ _ _ h => h) (Or.inl ⟨by kernel_rfl, ?hy⟩) (by assumption) ?_
              case hy =>
                intro w' hSw
                clear hSw
                first
                  | (go_simp; done)
                  | (go_simp; with_reducible rfl)
              simp only [Act.put, List.setIfInBounds_toArray, List.set_cons_zero, List.set_cons_succ]
              refine takeH 3 (some 80) (v := ?_) rfl (by kernel_rfl) (by kernel_rfl) (by kernel_rfl) (by kernel_rfl) (fun _ _ _ h => h) (Or.inl ⟨by kernel_rfl, ?hy⟩) (by assumption) ?_
              case hy =>
                intro w' hSw
                clear hSw
                first
                  | (go_simp; done)
                  | (go_simp; with_reducible rfl)
              simp only [Act.put, List.setIfInBounds_toArray, List.set_cons_zero, List.set_cons_succ]
              refine takeH 4 (some 81) (v := ?_) rfl (by kernel_rfl) (by kernel_rfl) (by kernel_rfl) (by kernel_rfl) (fun _ _ _ h => h) (Or.inl ⟨by kernel_rfl, ?hy⟩) (by assumption) ?_
              case hy =>
                intro w' hSw
                clear hSw
                first
                  | (go_simp; done)
                  | (go_simp; with_reducible rfl)
              simp only [Act.put, List.setIfInBounds_toArray, List.set_cons_zero, List.set_cons_succ]
              refine takeH 5 (some 82) (v := ?_) rfl (by kernel_rfl) (by kernel_rfl) (by kernel_rfl) (by kernel_rfl) (fun _ _ _ h => h) (Or.inl ⟨by kernel_rfl, ?hy⟩) (by assumption) ?_
              case hy =>
                intro w' hSw
                have hx := hfn w' hSw
                have hxl : w.heap.size + 1 + 1 < w'.heap.size := Nat.lt_of_lt_of_le hl5 hSw.size
                clear hSw
                first
                  | (go_simp; done)
                  | (go_simp; with_reducible rfl)
              simp only [Act.put, List.setIfInBounds_toArray, List.set_cons_zero, List.set_cons_succ]
              refine takeH 6 (some 83) (v := ?_) rfl (by kernel_rfl) (by kernel_rfl) (by kernel_rfl) (by kernel_rfl) (fun _ _ _ h => h) (Or.inl ⟨by kernel_rfl, ?hy⟩) (by assumption) ?_
              case hy =>
                intro w' hSw
                clear hSw
                first
                  | (go_simp; done)
                  | (go_simp; with_reducible rfl)
              simp only [Act.put, List.setIfInBounds_toArray, List.set_cons_zero, List.set_cons_succ]
              refine takeH 7 (some 84) (v := undef) rfl (by kernel_rfl) (by kernel_rfl) (by kernel_rfl) (by kernel_rfl) (fun _ _ _ h => h) (Or.inr ⟨by kernel_rfl, rfl⟩) (by assumption) ?_
              simp only [Act.put, List.setIfInBounds_toArray, List.set_cons_zero, List.set_cons_succ]
              refine takeH 8 (some 85) (v := undef) rfl (by kernel_rfl) (by kernel_rfl) (by kernel_rfl) (by kernel_rfl) (fun _ _ _ h => h) (Or.inr ⟨by kernel_rfl, rfl⟩) (by assumption) ?_
              simp only [Act.put, List.setIfInBounds_toArray, List.set_cons_zero, List.set_cons_succ]
              refine takeH 9 (some 86) (v := undef) rfl (by kernel_rfl) (by kernel_rfl) (by kernel_rfl) (by kernel_rfl) (fun _ _ _ h => h) (Or.inr ⟨by kernel_rfl, rfl⟩) (by assumption) ?_
              simp only [Act.put, List.setIfInBounds_toArray, List.set_cons_zero, List.set_cons_succ]
              refine takeH 10 (some 87) (v := undef) rfl (by kernel_rfl) (by kernel_rfl) (by kernel_rfl) (by kernel_rfl) (fun _ _ _ h => h) (Or.inr ⟨by kernel_rfl, rfl⟩) (by assumption) ?_
              simp only [Act.put, List.setIfInBounds_toArray, List.set_cons_zero, List.set_cons_succ]
              refine takeH 11 (some 88) (v := undef) rfl (by kernel_rfl) (by kernel_rfl) (by kernel_rfl) (by kernel_rfl) (fun _ _ _ h => h) (Or.inr ⟨by kernel_rfl, rfl⟩) (by assumption) ?_
              simp only [Act.put, List.setIfInBounds_toArray, List.set_cons_zero, List.set_cons_succ]
              refine takeH 12 (some 89) (v := undef) rfl (by kernel_rfl) (by kernel_rfl) (by kernel_rfl) (by kernel_rfl) (fun _ _ _ h => h) (Or.inr ⟨by kernel_rfl, rfl⟩) (by assumption) ?_
              simp only [Act.put, List.setIfInBounds_toArray, List.set_cons_zero, List.set_cons_succ]
              refine takeH 13 (some 90) (v := undef) rfl (by kernel_rfl) (by kernel_rfl) (by kernel_rfl) (by kernel_rfl) (fun _ _ _ h => h) (Or.inr ⟨by kernel_rfl, rfl⟩) (by assumption) ?_
              simp only [Act.put, List.setIfInBounds_toArray, List.set_cons_zero, List.set_cons_succ]
              refine takeH 14 (some 91) (v := undef) rfl (by kernel_rfl) (by kernel_rfl) (by kernel_rfl) (by kernel_rfl) (fun _ _ _ h => h) (Or.inr ⟨by kernel_rfl, rfl⟩) (by assumption) ?_
              simp only [Act.put, List.setIfInBounds_toArray, List.set_cons_zero, List.set_cons_succ]
              refine takeH 15 (some 92) (v := undef) rfl (by kernel_rfl) (by kernel_rfl) (by kernel_rfl) (by kernel_rfl) (fun _ _ _ h => h) (Or.inr ⟨by kernel_rfl, rfl⟩) (by assumption) ?_
              simp only [Act.put, List.setIfInBounds_toArray, List.set_cons_zero, List.set_cons_succ]
              refine takeH 16 (some 93) (v := undef) rfl (by kernel_rfl) (by kernel_rfl) (by kernel_rfl) (by kernel_rfl) (fun _ _ _ h => h) (Or.inr ⟨by kernel_rfl, rfl⟩) (by assumption) ?_
              simp only [Act.put, List.setIfInBounds_toArray, List.set_cons_zero, List.set_cons_succ]
              refine takeH 17 (some 94) (v := undef) rfl (by kernel_rfl) (by kernel_rfl) (by kernel_rfl) (by kernel_rfl) (fun _ _ _ h => h) (Or.inr ⟨by kernel_rfl, rfl⟩) (by assumption) ?_
              simp only [Act.put, List.setIfInBounds_toArray, List.set_cons_zero, List.set_cons_succ]
              refine takeH 18 (some 95) (v := ?_) rfl (by kernel_rfl) (by kernel_rfl) (by kernel_rfl) (by kernel_rfl) (fun _ _ _ h => h) (Or.inl ⟨by kernel_rfl, ?hy⟩) (by assumption) ?_
              case hy =>
                intro w' hSw
                clear hSw
                first
                  | (go_simp; done)
                  | (go_simp; with_reducible rfl)
              simp only [Act.put, List.setIfInBounds_toArray, List.set_cons_zero, List.set_cons_succ]
              refine takeH 19 (some 96) (v := ?_) rfl (by kernel_rfl) (by kernel_rfl) (by kernel_rfl) (by kernel_rfl) (fun _ _ _ h => h) (Or.inl ⟨by kernel_rfl, ?hy⟩) (by assumption) ?_
              case hy =>
                intro w' hSw
                clear hSw
                first
                  | (go_simp; done)
                  | (go_simp; with_reducible rfl)
              simp only [Act.put, List.setIfInBounds_toArray, List.set_cons_zero, List.set_cons_succ]
              refine takeH 20 (some 12) (v := ?_) rfl (by kernel_rfl) (by kernel_rfl) (by kernel_rfl) (by kernel_rfl) (fun _ _ _ h => h) (Or.inl ⟨by kernel_rfl, ?hy⟩) (by assumption) ?_
              case hy =>
                intro w' hSw
                clear hSw
                first
                  | (go_simp; done)
                  | (go_simp; with_reducible rfl)
              simp only [Act.put, List.setIfInBounds_toArray, List.set_cons_zero, List.set_cons_succ]
              refine wpAnyH_done (by kernel_rfl) ?_ _
              clear hS1 hfn
              go_wp2
              go_roundw
              case rel => exact ⟨k + 1, _, _, _, by omega, by rw [sgAll_succ, HSG.out]; unfold sgnd; rw [HNk.out]; rfl, by go_num, HPf, HNx, Lib.hid (fun j hj => by rw [putQ_far (by omega)]; exact HQn.out j (by omega))⟩
              case measure => simp [RowKit.intOf]; omega
          | false =>
            have HNk := Lib.hid hNk
            have HNx := Lib.hid (show SgI N O dX dY (k + 1) (oldL false (kS k) dY L1) (putQ q k (newQ false (kS k) dY L1 Q1)) from by have h1 := HNx0.out; rw [hNk] at h1; exact h1)
            have yn := (HFN.out k hlt _ HPs.out.low).trans (by rw [hNk])
            have hl5' := Nat.lt_of_lt_of_le hl5 HPs.out.low.size
            clear hNk
            have HPe : Hid (PvS x g10 g11 _ (oldL false (kS k) dY L1) V1 (putQ q k (newQ false (kS k) dY L1 Q1))) := HPs
            cases hsg : sgAll N O dX dY k with
            | false =>
              have HSG := Lib.hid hsg
              clear hsg
              go_upto_region 20 with fail
              have HPf := Lib.hid (HPe.out.below (Below.refl _ _).drew)
              have hS1 := HPf.out.low
              refine wp_region_held_drew (S := fun w' => Below x.heap.size x w') (by kernel_rfl) hS1 (fun hHeld => ?_)
              rw [show Array.replicate _ false = (#[false, false, false, false, false, false, false, false, false, false, false, false, false, false, false, false, false, false, false, false, false] : Array Bool) from rfl]
              generalize hws : World.drew _ = z0 at *
              clear hws
              refine takeH 0 (some 77) (v := ?_) rfl (by kernel_rfl) (by kernel_rfl) (by kernel_rfl) (by kernel_rfl) (fun _ _ _ h => h) (Or.inl ⟨by kernel_rfl, ?hy⟩) (by assumption) ?_
              case hy =>
                intro w' hSw
                clear hSw
                first
                  | (go_simp; done)
                  | (go_simp; with_reducible rfl)
              simp only [Act.put, List.setIfInBounds_toArray, List.set_cons_zero, List.set_cons_succ]
              refine takeH 1 (some 78) (v := ?_) rfl (by kernel_rfl) (by kernel_rfl) (by kernel_rfl) (by kernel_rfl) (fun _ _ _ h => h) (Or.inl ⟨by kernel_rfl, ?hy⟩) (by assumption) ?_
              case hy =>
                intro w' hSw
                clear hSw
                first
                  | (go_simp; done)
                  | (go_simp; with_reducible rfl)
              simp only [Act.put, List.setIfInBounds_toArray, List.set_cons_zero, List.set_cons_succ]
              refine takeH 2 (some 79) (v := undef) rfl (by kernel_rfl) (by kernel_rfl) (by kernel_rfl) (by kernel_rfl) (fun _ _ _ h => h) (Or.inr ⟨by kernel_rfl, rfl⟩) (by assumption) ?_
              simp only [Act.put, List.setIfInBounds_toArray, List.set_cons_zero, List.set_cons_succ]
              refine takeH 3 (some 80) (v := undef) rfl (by kernel_rfl) (by kernel_rfl) (by kernel_rfl) (by kernel_rfl) (fun _ _ _ h => h) (Or.inr ⟨by kernel_rfl, rfl⟩) (by assumption) ?_
              simp only [Act.put, List.setIfInBounds_toArray, List.set_cons_zero, List.set_cons_succ]
              refine takeH 4 (some 81) (v := undef) rfl (by kernel_rfl) (by kernel_rfl) (by kernel_rfl) (by kernel_rfl) (fun _ _ _ h => h) (Or.inr ⟨by kernel_rfl, rfl⟩) (by assumption) ?_
              simp only [Act.put, List.setIfInBounds_toArray, List.set_cons_zero, List.set_cons_succ]
              refine takeH 5 (some 82) (v := undef) rfl (by kernel_rfl) (by kernel_rfl) (by kernel_rfl) (by kernel_rfl) (fun _ _ _ h => h) (Or.inr ⟨by kernel_rfl, rfl⟩) (by assumption) ?_
              simp only [Act.put, List.setIfInBounds_toArray, List.set_cons_zero, List.set_cons_succ]
              refine takeH 6 (some 83) (v := undef) rfl (by kernel_rfl) (by kernel_rfl) (by kernel_rfl) (by kernel_rfl) (fun _ _ _ h => h) (Or.inr ⟨by kernel_rfl, rfl⟩) (by assumption) ?_
              simp only [Act.put, List.setIfInBounds_toArray, List.set_cons_zero, List.set_cons_succ]
              refine takeH 7 (some 84) (v := undef) rfl (by kernel_rfl) (by kernel_rfl) (by kernel_rfl) (by kernel_rfl) (fun _ _ _ h => h) (Or.inr ⟨by kernel_rfl, rfl⟩) (by assumption) ?_
              simp only [Act.put, List.setIfInBounds_toArray, List.set_cons_zero, List.set_cons_succ]
              refine takeH 8 (some 85) (v := undef) rfl (by kernel_rfl) (by kernel_rfl) (by kernel_rfl) (by kernel_rfl) (fun _ _ _ h => h) (Or.inr ⟨by kernel_rfl, rfl⟩) (by assumption) ?_
              simp only [Act.put, List.setIfInBounds_toArray, List.set_cons_zero, List.set_cons_succ]
              refine takeH 9 (some 86) (v := undef) rfl (by kernel_rfl) (by kernel_rfl) (by kernel_rfl) (by kernel_rfl) (fun _ _ _ h => h) (Or.inr ⟨by kernel_rfl, rfl⟩) (by assumption) ?_
              simp only [Act.put, List.setIfInBounds_toArray, List.set_cons_zero, List.set_cons_succ]
              refine takeH 10 (some 87) (v := undef) rfl (by kernel_rfl) (by kernel_rfl) (by kernel_rfl) (by kernel_rfl) (fun _ _ _ h => h) (Or.inr ⟨by kernel_rfl, rfl⟩) (by assumption) ?_
              simp only [Act.put, List.setIfInBounds_toArray, List.set_cons_zero, List.set_cons_succ]
              refine takeH 11 (some 88) (v := undef) rfl (by kernel_rfl) (by kernel_rfl) (by kernel_rfl) (by kernel_rfl) (fun _ _ _ h => h) (Or.inr ⟨by kernel_rfl, rfl⟩) (by assumption) ?_
              simp only [Act.put, List.setIfInBounds_toArray, List.set_cons_zero, List.set_cons_succ]
              refine takeH 12 (some 89) (v := undef) rfl (by kernel_rfl) (by kernel_rfl) (by kernel_rfl) (by kernel_rfl) (fun _ _ _ h => h) (Or.inr ⟨by kernel_rfl, rfl⟩) (by assumption) ?_
              simp only [Act.put, List.setIfInBounds_toArray, List.set_cons_zero, List.set_cons_succ]
              refine takeH 13 (some 90) (v := undef) rfl (by kernel_rfl) (by kernel_rfl) (by kernel_rfl) (by kernel_rfl) (fun _ _ _ h => h) (Or.inr ⟨by kernel_rfl, rfl⟩) (by assumption) ?_
              simp only [Act.put, List.setIfInBounds_toArray, List.set_cons_zero, List.set_cons_succ]
              refine takeH 14 (some 91) (v := undef) rfl (by kernel_rfl) (by kernel_rfl) (by kernel_rfl) (by kernel_rfl) (fun _ _ _ h => h) (Or.inr ⟨by kernel_rfl, rfl⟩) (by assumption) ?_
              simp only [Act.put, List.setIfInBounds_toArray, List.set_cons_zero, List.set_cons_succ]
              refine takeH 15 (some 92) (v := undef) rfl (by kernel_rfl) (by kernel_rfl) (by kernel_rfl) (by kernel_rfl) (fun _ _ _ h => h) (Or.inr ⟨by kernel_rfl, rfl⟩) (by assumption) ?_
              simp only [Act.put, List.setIfInBounds_toArray, List.set_cons_zero, List.set_cons_succ]
              refine takeH 16 (some 93) (v := undef) rfl (by kernel_rfl) (by kernel_rfl) (by kernel_rfl) (by kernel_rfl) (fun _ _ _ h => h) (Or.inr ⟨by kernel_rfl, rfl⟩) (by assumption) ?_
              simp only [Act.put, List.setIfInBounds_toArray, List.set_cons_zero, List.set_cons_succ]
              refine takeH 17 (some 94) (v := undef) rfl (by kernel_rfl) (by kernel_rfl) (by kernel_rfl) (by kernel_rfl) (fun _ _ _ h => h) (Or.inr ⟨by kernel_rfl, rfl⟩) (by assumption) ?_
              simp only [Act.put, List.setIfInBounds_toArray, List.set_cons_zero, List.set_cons_succ]
              refine takeH 18 (some 95) (v := undef) rfl (by kernel_rfl) (by kernel_rfl) (by kernel_rfl) (by kernel_rfl) (fun _ _ _ h => h) (Or.inr ⟨by kernel_rfl, rfl⟩) (by assumption) ?_
              simp only [Act.put, List.setIfInBounds_toArray, List.set_cons_zero, List.set_cons_succ]
              refine takeH 19 (some 96) (v := ?_) rfl (by kernel_rfl) (by kernel_rfl) (by kernel_rfl) (by kernel_rfl) (fun _ _ _ h => h) (Or.inl ⟨by kernel_rfl, ?hy⟩) (by assumption) ?_
              case hy =>
                intro w' hSw
                clear hSw
                first
                  | (go_simp; done)
                  | (go_simp; with_reducible rfl)
              simp only [Act.put, List.setIfInBounds_toArray, List.set_cons_zero, List.set_cons_succ]
              refine takeH 20 (some 12) (v := ?_) rfl (by kernel_rfl) (by kernel_rfl) (by kernel_rfl) (by kernel_rfl) (fun _ _ _ h => h) (Or.inl ⟨by kernel_rfl, ?hy⟩) (by assumption) ?_
              case hy =>
                intro w' hSw
                clear hSw
                first
                  | (go_simp; done)
                  | (go_simp; with_reducible rfl)
              simp only [Act.put, List.setIfInBounds_toArray, List.set_cons_zero, List.set_cons_succ]
              refine wpAnyH_done (by kernel_rfl) ?_ _
              clear hS1
              go_wp2
              go_roundw
              case rel => exact ⟨k + 1, _, _, _, by omega, by rw [sgAll_succ, HSG.out]; rfl, by go_num, HPf, HNx, Lib.hid (fun j hj => by rw [putQ_far (by omega)]; exact HQn.out j (by omega))⟩
              case measure => simp [RowKit.intOf]; omega
            | true =>
              have HSG := Lib.hid hsg
              clear hsg
              have hfn : ∀ w', Below x.heap.size x w' → w'.cell? ⟨w.heap.size + 1 + 1, k, none⟩ = some (.bool false) := fun w' hw => (HFN.out k hlt w' hw).trans (by rw [HNk.out])
              have hfo : ∀ w', Below x.heap.size x w' → w'.cell? ⟨w.heap.size + 1 + 1, 2 + k, none⟩ = some (.bool true) := fun w' hw => (HFO.out k hlt w' hw).trans (by rw [HOk.out])
              have hlx := HLX.out; have hly := HLY.out
              have hG : ∀ (x y : Operand) u, (eqGuard .eql 32 x y (.agg #[.int .u8 (dX.x0 : Int), .int .u8 (dX.x1 : Int), .int .u8 (dX.x2 : Int), .int .u8 (dX.x3 : Int), .int .u8 (dX.x4 : Int), .int .u8 (dX.x5 : Int), .int .u8 (dX.x6 : Int), .int .u8 (dX.x7 : Int)]) (.agg #[.int .u8 (dY.x0 : Int), .int .u8 (dY.x1 : Int), .int .u8 (dY.x2 : Int), .int .u8 (dY.x3 : Int), .int .u8 (dY.x4 : Int), .int .u8 (dY.x5 : Int), .int .u8 (dY.x6 : Int), .int .u8 (dY.x7 : Int)])).run Try.prog u = .ok () u := fun x y u => by first | (go_simp; done) | exact run_eqGuard_agg _ _ _ _ _ _ (by kernel_rfl)
              have hE : ∀ u, (binOp .eql 32 (.agg #[.int .u8 (dX.x0 : Int), .int .u8 (dX.x1 : Int), .int .u8 (dX.x2 : Int), .int .u8 (dX.x3 : Int), .int .u8 (dX.x4 : Int), .int .u8 (dX.x5 : Int), .int .u8 (dX.x6 : Int), .int .u8 (dX.x7 : Int)]) (.agg #[.int .u8 (dY.x0 : Int), .int .u8 (dY.x1 : Int), .int .u8 (dY.x2 : Int), .int .u8 (dY.x3 : Int), .int .u8 (dY.x4 : Int), .int .u8 (dY.x5 : Int), .int .u8 (dY.x6 : Int), .int .u8 (dY.x7 : Int)])).run Try.prog u = .ok (.bool (sameP dX dY)) u := fun u => eql_dig _ _ _ _ _ _ _ _ _ _ _ _ _ _ _ _ u
              go_upto_region 20 with fail
              have HPf := Lib.hid (HPe.out.below (Below.refl _ _).drew)
              have hS1 := HPf.out.low
              refine wp_region_held_drew (S := fun w' => Below x.heap.size x w') (by kernel_rfl) hS1 (fun hHeld => ?_)
              rw [show Array.replicate _ false = (#[false, false, false, false, false, false, false, false, false, false, false, false, false, false, false, false, false, false, false, false, false] : Array Bool) from rfl]
              generalize hws : World.drew _ = z0 at *
              clear hws
              refine takeH 0 (some 77) (v := ?_) rfl (by kernel_rfl) (by kernel_rfl) (by kernel_rfl) (by kernel_rfl) (fun _ _ _ h => h) (Or.inl ⟨by kernel_rfl, ?hy⟩) (by assumption) ?_
              case hy =>
                intro w' hSw
                clear hSw
                first
                  | (go_simp; done)
                  | (go_simp; with_reducible rfl)
              simp only [Act.put, List.setIfInBounds_toArray, List.set_cons_zero, List.set_cons_succ]
              refine takeH 1 (some 78) (v := ?_) rfl (by kernel_rfl) (by kernel_rfl) (by kernel_rfl) (by kernel_rfl) (fun _ _ _ h => h) (Or.inl ⟨by kernel_rfl, ?hy⟩) (by assumption) ?_
              case hy =>
                intro w' hSw
                clear hSw
                first
                  | (go_simp; done)
                  | (go_simp; with_reducible rfl)
              simp only [Act.put, List.setIfInBounds_toArray, List.set_cons_zero, List.set_cons_succ]
              refine takeH 2 (some 79) (v := ?_) rfl (by kernel_rfl) (by kernel_rfl) (by kernel_rfl) (by kernel_rfl) (fun _ _ _ h => h) (Or.inl ⟨by kernel_rfl, ?hy⟩) (by assumption) ?_
              case hy =>
                intro w' hSw
                clear hSw
                first
                  | (go_simp; done)
                  | (go_simp; with_reducible rfl)
              simp only [Act.put, List.setIfInBounds_toArray, List.set_cons_zero, List.set_cons_succ]
              refine takeH 3 (some 80) (v := ?_) rfl (by kernel_rfl) (by kernel_rfl) (by kernel_rfl) (by kernel_rfl) (fun _ _ _ h => h) (Or.inl ⟨by kernel_rfl, ?hy⟩) (by assumption) ?_
              case hy =>
                intro w' hSw
                clear hSw
                first
                  | (go_simp; done)
                  | (go_simp; with_reducible rfl)
              simp only [Act.put, List.setIfInBounds_toArray, List.set_cons_zero, List.set_cons_succ]
              refine takeH 4 (some 81) (v := ?_) rfl (by kernel_rfl) (by kernel_rfl) (by kernel_rfl) (by kernel_rfl) (fun _ _ _ h => h) (Or.inl ⟨by kernel_rfl, ?hy⟩) (by assumption) ?_
              case hy =>
                intro w' hSw
                clear hSw
                first
                  | (go_simp; done)
                  | (go_simp; with_reducible rfl)
              simp only [Act.put, List.setIfInBounds_toArray, List.set_cons_zero, List.set_cons_succ]
              refine takeH 5 (some 82) (v := ?_) rfl (by kernel_rfl) (by kernel_rfl) (by kernel_rfl) (by kernel_rfl) (fun _ _ _ h => h) (Or.inl ⟨by kernel_rfl, ?hy⟩) (by assumption) ?_
              case hy =>
                intro w' hSw
                have hx := hfn w' hSw
                have hxl : w.heap.size + 1 + 1 < w'.heap.size := Nat.lt_of_lt_of_le hl5 hSw.size
                clear hSw
                first
                  | (go_simp; done)
                  | (go_simp; with_reducible rfl)
              simp only [Act.put, List.setIfInBounds_toArray, List.set_cons_zero, List.set_cons_succ]
              refine takeH 6 (some 83) (v := ?_) rfl (by kernel_rfl) (by kernel_rfl) (by kernel_rfl) (by kernel_rfl) (fun _ _ _ h => h) (Or.inl ⟨by kernel_rfl, ?hy⟩) (by assumption) ?_
              case hy =>
                intro w' hSw
                clear hSw
                first
                  | (go_simp; done)
                  | (go_simp; with_reducible rfl)
              simp only [Act.put, List.setIfInBounds_toArray, List.set_cons_zero, List.set_cons_succ]
              refine takeH 7 (some 84) (v := ?_) rfl (by kernel_rfl) (by kernel_rfl) (by kernel_rfl) (by kernel_rfl) (fun _ _ _ h => h) (Or.inl ⟨by kernel_rfl, ?hy⟩) (by assumption) ?_
              case hy =>
                intro w' hSw
                clear hSw
                first
                  | (go_simp; done)
                  | (go_simp; with_reducible rfl)
              simp only [Act.put, List.setIfInBounds_toArray, List.set_cons_zero, List.set_cons_succ]
              refine takeH 8 (some 85) (v := ?_) rfl (by kernel_rfl) (by kernel_rfl) (by kernel_rfl) (by kernel_rfl) (fun _ _ _ h => h) (Or.inl ⟨by kernel_rfl, ?hy⟩) (by assumption) ?_
              case hy =>
                intro w' hSw
                clear hSw
                first
                  | (go_simp; done)
                  | (go_simp; with_reducible rfl)
              simp only [Act.put, List.setIfInBounds_toArray, List.set_cons_zero, List.set_cons_succ]
              refine takeH 9 (some 86) (v := ?_) rfl (by kernel_rfl) (by kernel_rfl) (by kernel_rfl) (by kernel_rfl) (fun _ _ _ h => h) (Or.inl ⟨by kernel_rfl, ?hy⟩) (by assumption) ?_
              case hy =>
                intro w' hSw
                clear hSw
                first
                  | (go_simp; done)
                  | (go_simp; with_reducible rfl)
              simp only [Act.put, List.setIfInBounds_toArray, List.set_cons_zero, List.set_cons_succ]
              refine takeH 10 (some 87) (v := ?_) rfl (by kernel_rfl) (by kernel_rfl) (by kernel_rfl) (by kernel_rfl) (fun _ _ _ h => h) (Or.inl ⟨by kernel_rfl, ?hy⟩) (by assumption) ?_
              case hy =>
                intro w' hSw
                have hx := hfo w' hSw
                have hxl : w.heap.size + 1 + 1 < w'.heap.size := Nat.lt_of_lt_of_le hl5 hSw.size
                clear hSw
                first
                  | (go_simp; done)
                  | (go_simp; with_reducible rfl)
              simp only [Act.put, List.setIfInBounds_toArray, List.set_cons_zero, List.set_cons_succ]
              refine takeH 11 (some 88) (v := ?_) rfl (by kernel_rfl) (by kernel_rfl) (by kernel_rfl) (by kernel_rfl) (fun _ _ _ h => h) (Or.inl ⟨by kernel_rfl, ?hy⟩) (by assumption) ?_
              case hy =>
                intro w' hSw
                clear hSw
                first
                  | (go_simp; done)
                  | (go_simp; with_reducible rfl)
              simp only [Act.put, List.setIfInBounds_toArray, List.set_cons_zero, List.set_cons_succ]
              refine takeH 12 (some 89) (v := Vx) rfl (by kernel_rfl) (by kernel_rfl) (by kernel_rfl) (by kernel_rfl) (fun _ _ _ h => h) (Or.inl ⟨by kernel_rfl, ?hy⟩) (by assumption) ?_
              case hy =>
                intro w' hSw
                simp [execOp, Act.eval, hlx w' hSw, Result.andThen]
              simp only [Act.put, List.setIfInBounds_toArray, List.set_cons_zero, List.set_cons_succ]
              refine takeH 14 (some 91) (v := Vy) rfl (by kernel_rfl) (by kernel_rfl) (by kernel_rfl) (by kernel_rfl) (fun _ _ _ h => h) (Or.inl ⟨by kernel_rfl, ?hy⟩) (by assumption) ?_
              case hy =>
                intro w' hSw
                simp [execOp, Act.eval, hly w' hSw, Result.andThen]
              simp only [Act.put, List.setIfInBounds_toArray, List.set_cons_zero, List.set_cons_succ]
              clear hS1 hlx hly hfn hfo
              have HGE := Lib.hid (And.intro hG hE)
              clear hG hE
              refine wpAnyH_ready (rs := [13]) (by kernel_rfl) (by simp) ?_
              refine AllReadyH.cons rfl (fun K hK => ?_) AllReadyH.nil
              rw [if_pos (by kernel_rfl)]
              go_simp
              refine (HDX.out z0 HPf.out.low).mono ?_
              rintro e z1 ⟨rfl, hb⟩
              have HPg := Lib.hid (HPf.out.below hb)
              clear hb
              refine hK.out _ _ HPg.out.low (fun _ => ?_)
              clear hK K
              simp only [List.setIfInBounds_toArray, List.set_cons_zero, List.set_cons_succ]
              refine wpAnyH_ready (rs := [15]) (by kernel_rfl) (by simp) ?_
              refine AllReadyH.cons rfl (fun K hK => ?_) AllReadyH.nil
              rw [if_pos (by kernel_rfl)]
              go_simp
              refine (HDY.out z1 HPg.out.low).mono ?_
              rintro e z2 ⟨rfl, hb⟩
              have HPh := Lib.hid (HPg.out.below hb)
              clear hb
              refine hK.out _ _ HPh.out.low (fun _ => ?_)
              clear hK K
              simp only [List.setIfInBounds_toArray, List.set_cons_zero, List.set_cons_succ]
              have hS1 := HPh.out.low
              obtain ⟨hG, hE⟩ := HGE.out
              refine takeH 16 (some 93) (v := .bool (sameP dX dY)) rfl (by kernel_rfl) (by kernel_rfl) (by kernel_rfl) (by kernel_rfl) (fun _ _ _ h => h) (Or.inl ⟨by kernel_rfl, fun w' _ => exec_binP (by rfl) (by rfl) (by rfl) (hG _ _ w') (hE w')⟩) (by assumption) ?_
              simp only [Act.put, List.setIfInBounds_toArray, List.set_cons_zero, List.set_cons_succ]
              clear hG hE
              refine takeH 17 (some 94) (v := ?_) rfl (by kernel_rfl) (by kernel_rfl) (by kernel_rfl) (by kernel_rfl) (fun _ _ _ h => h) (Or.inl ⟨by kernel_rfl, ?hy⟩) (by assumption) ?_
              case hy =>
                intro w' hSw
                clear hSw
                first
                  | (go_simp; done)
                  | (go_simp; with_reducible rfl)
              simp only [Act.put, List.setIfInBounds_toArray, List.set_cons_zero, List.set_cons_succ]
              refine takeH 18 (some 95) (v := ?_) rfl (by kernel_rfl) (by kernel_rfl) (by kernel_rfl) (by kernel_rfl) (fun _ _ _ h => h) (Or.inl ⟨by kernel_rfl, ?hy⟩) (by assumption) ?_
              case hy =>
                intro w' hSw
                clear hSw
                first
                  | (go_simp; done)
                  | (go_simp; with_reducible rfl)
              simp only [Act.put, List.setIfInBounds_toArray, List.set_cons_zero, List.set_cons_succ]
              refine takeH 19 (some 96) (v := ?_) rfl (by kernel_rfl) (by kernel_rfl) (by kernel_rfl) (by kernel_rfl) (fun _ _ _ h => h) (Or.inl ⟨by kernel_rfl, ?hy⟩) (by assumption) ?_
              case hy =>
                intro w' hSw
                clear hSw
                first
                  | (go_simp; done)
                  | (go_simp; with_reducible rfl)
              simp only [Act.put, List.setIfInBounds_toArray, List.set_cons_zero, List.set_cons_succ]
              refine takeH 20 (some 12) (v := ?_) rfl (by kernel_rfl) (by kernel_rfl) (by kernel_rfl) (by kernel_rfl) (fun _ _ _ h => h) (Or.inl ⟨by kernel_rfl, ?hy⟩) (by assumption) ?_
              case hy =>
                intro w' hSw
                clear hSw
                first
                  | (go_simp; done)
                  | (go_simp; with_reducible rfl)
              simp only [Act.put, List.setIfInBounds_toArray, List.set_cons_zero, List.set_cons_succ]
              refine wpAnyH_done (by kernel_rfl) ?_ _
              clear hS1
              go_wp2
              go_roundw
              case rel => exact ⟨k + 1, _, _, _, by omega, by rw [sgAll_succ, HSG.out]; unfold sgnd; rw [HNk.out, HOk.out]; rfl, by go_num, HPh, HNx, Lib.hid (fun j hj => by rw [putQ_far (by omega)]; exact HQn.out j (by omega))⟩
              case measure => simp [RowKit.intOf]; omega
        | false =>
          have HOk := Lib.hid hOk
          have yo := (HFO.out k hlt w5 HPs.out.low).trans (by rw [hOk])
          have hl5' : w.heap.size + 1 + 1 < w5.heap.size := Nat.lt_of_lt_of_le hl5 HPs.out.low.size
          obtain ⟨V1, HPs1⟩ : ∃ V1, Hid (PvS x g10 g11 w5 (oldL false (kS k) dX L) V1 (putQ q k (oldQ false (kS k) dX L))) := ⟨V, by rw [show oldQ false (kS k) dX L = none from rfl, putQ_none (HQn.out k (Nat.le_refl _))]; exact HPs⟩
          clear HPs hOk
          have HPs := HPs1
          clear HPs1
          have HNx0 := Lib.hid (show SgI N O dX dY (k + 1) (oldL (N k) (kS k) dY (oldL false (kS k) dX L)) (putQ q k (newQ (N k) (kS k) dY (oldL false (kS k) dX L) (oldQ false (kS k) dX L))) from by have h1 := HI.out.next; rw [HOk.out] at h1; exact h1)
          have hL1 := oldL_len false (kS k) dX L
          have hL0 := Hlen.out
          clear Hlen
          have Hlen : Hid ((oldL false (kS k) dX L).length ≤ 5) := Lib.hid (by omega)
          clear hL1 hL0
          generalize oldL false (kS k) dX L = L1 at *
          generalize oldQ false (kS k) dX L = Q1 at *
          cases hNk : N k with
          | true =>
            have HNk := Lib.hid hNk
            have HNx := Lib.hid (show SgI N O dX dY (k + 1) (oldL true (kS k) dY L1) (putQ q k (newQ true (kS k) dY L1 Q1)) from by have h1 := HNx0.out; rw [hNk] at h1; exact h1)
            have yn := (HFN.out k hlt _ HPs.out.low).trans (by rw [hNk])
            have hl5' := Nat.lt_of_lt_of_le hl5 HPs.out.low.size
            clear hNk
            go_upto_region 19 with fail
            clear yn hl5'
            have hlv := HLY.out
            have HPa := Lib.hid (HPs.out.below (Below.refl _ _).drew)
            have hS1 := HPa.out.low
            refine wp_region_held_drew (S := fun w' => Below x.heap.size x w') (by kernel_rfl) hS1 (fun hHeld => ?_)
            rw [show Array.replicate _ false = (#[false, false, false, false, false, false, false, false, false, false, false, false, false] : Array Bool) from rfl]
            generalize hws : World.drew _ = v0 at *
            clear hws
            refine takeH 0 (some 66) (v := ?_) rfl (by kernel_rfl) (by kernel_rfl) (by kernel_rfl) (by kernel_rfl) (fun _ _ _ h => h) (Or.inl ⟨by kernel_rfl, ?hy⟩) (by assumption) ?_
            case hy =>
              intro w' hSw
              clear hSw
              first
                | (go_simp; done)
                | (go_simp; with_reducible rfl)
            simp only [Act.put, List.setIfInBounds_toArray, List.set_cons_zero, List.set_cons_succ]
            refine takeH 1 (some 67) (v := ?_) rfl (by kernel_rfl) (by kernel_rfl) (by kernel_rfl) (by kernel_rfl) (fun _ _ _ h => h) (Or.inl ⟨by kernel_rfl, ?hy⟩) (by assumption) ?_
            case hy =>
              intro w' hSw
              clear hSw
              first
                | (go_simp; done)
                | (go_simp; with_reducible rfl)
            simp only [Act.put, List.setIfInBounds_toArray, List.set_cons_zero, List.set_cons_succ]
            refine takeH 2 (some 68) (v := Vy) rfl (by kernel_rfl) (by kernel_rfl) (by kernel_rfl) (by kernel_rfl) (fun _ _ _ h => h) (Or.inl ⟨by kernel_rfl, ?hy⟩) (by assumption) ?_
            case hy =>
              intro w' hSw
              simp [execOp, Act.eval, hlv w' hSw, Result.andThen]
            simp only [Act.put, List.setIfInBounds_toArray, List.set_cons_zero, List.set_cons_succ]
            refine takeH 4 (some 70) (v := ?_) rfl (by kernel_rfl) (by kernel_rfl) (by kernel_rfl) (by kernel_rfl) (fun _ _ _ h => h) (Or.inl ⟨by kernel_rfl, ?hy⟩) (by assumption) ?_
            case hy =>
              intro w' hSw
              clear hSw
              first
                | (go_simp; done)
                | (go_simp; with_reducible rfl)
            simp only [Act.put, List.setIfInBounds_toArray, List.set_cons_zero, List.set_cons_succ]
            refine takeH 5 (some 71) (v := ?_) rfl (by kernel_rfl) (by kernel_rfl) (by kernel_rfl) (by kernel_rfl) (fun _ _ _ h => h) (Or.inl ⟨by kernel_rfl, ?hy⟩) (by assumption) ?_
            case hy =>
              intro w' hSw
              clear hSw
              first
                | (go_simp; done)
                | (go_simp; with_reducible rfl)
            simp only [Act.put, List.setIfInBounds_toArray, List.set_cons_zero, List.set_cons_succ]
            refine takeH 6 (some 72) (v := ?_) rfl (by kernel_rfl) (by kernel_rfl) (by kernel_rfl) (by kernel_rfl) (fun _ _ _ h => h) (Or.inl ⟨by kernel_rfl, ?hy⟩) (by assumption) ?_
            case hy =>
              intro w' hSw
              clear hSw
              first
                | (go_simp; done)
                | (go_simp; with_reducible rfl)
            simp only [Act.put, List.setIfInBounds_toArray, List.set_cons_zero, List.set_cons_succ]
            clear hS1 hlv
            refine wpAnyH_ready (rs := [3]) (by kernel_rfl) (by simp) ?_
            refine AllReadyH.cons rfl (fun K hK => ?_) AllReadyH.nil
            rw [if_pos (by kernel_rfl)]
            go_simp
            refine (HDY.out v0 HPa.out.low).mono ?_
            rintro e v1 ⟨rfl, hb⟩
            have HPb := Lib.hid (HPa.out.below hb)
            clear hb
            refine hK.out _ _ HPb.out.low (fun _ => ?_)
            clear hK K
            simp only [List.setIfInBounds_toArray, List.set_cons_zero, List.set_cons_succ]
            refine wpAnyH_ready (rs := [7]) (by kernel_rfl) (by simp) ?_
            refine AllReadyH.cons rfl (fun K hK => ?_) AllReadyH.nil
            rw [if_pos (by kernel_rfl)]
            go_simp
            refine (wsign_any _ _ _ L1 (kS k) dY v1 HPb.out.book (kS_ok hlt) HdY.out (by have := Hlen.out; omega)).mono ?_
            rintro e v2 ⟨gs, rfl, h1, h2, h3, h4⟩
            have HPc := Lib.hid (HPb.out.kept h4 h3)
            have HSg := Lib.hid h2
            clear h1 h2 h3 h4
            refine hK.out _ _ HPc.out.low (fun _ => ?_)
            clear hK K
            simp only [List.setIfInBounds_toArray, List.set_cons_zero, List.set_cons_succ]
            have hS1 := HPc.out.low
            refine takeH 8 (some 65) (v := ?_) rfl (by kernel_rfl) (by kernel_rfl) (by kernel_rfl) (by kernel_rfl) (fun _ _ _ h => h) (Or.inl ⟨by kernel_rfl, ?hy⟩) (by assumption) ?_
            case hy =>
              intro w' hSw
              clear hSw
              first
                | (go_simp; done)
                | (go_simp; with_reducible rfl)
            simp only [Act.put, List.setIfInBounds_toArray, List.set_cons_zero, List.set_cons_succ]
            refine takeH 9 (some 74) (v := ?_) rfl (by kernel_rfl) (by kernel_rfl) (by kernel_rfl) (by kernel_rfl) (fun _ _ _ h => h) (Or.inl ⟨by kernel_rfl, ?hy⟩) (by assumption) ?_
            case hy =>
              intro w' hSw
              clear hSw
              first
                | (go_simp; done)
                | (go_simp; with_reducible rfl)
            simp only [Act.put, List.setIfInBounds_toArray, List.set_cons_zero, List.set_cons_succ]
            refine takeH 10 (some 75) (v := ?_) rfl (by kernel_rfl) (by kernel_rfl) (by kernel_rfl) (by kernel_rfl) (fun _ _ _ h => h) (Or.inl ⟨by kernel_rfl, ?hy⟩) (by assumption) ?_
            case hy =>
              intro w' hSw
              clear hSw
              first
                | (go_simp; done)
                | (go_simp; with_reducible rfl)
            simp only [Act.put, List.setIfInBounds_toArray, List.set_cons_zero, List.set_cons_succ]
            refine takeH 11 (some 76) (v := ?_) rfl (by kernel_rfl) (by kernel_rfl) (by kernel_rfl) (by kernel_rfl) (fun _ _ _ h => h) (Or.inl ⟨by kernel_rfl, ?hy⟩) (by assumption) ?_
            case hy =>
              intro w' hSw
              clear hSw
              first
                | (go_simp; done)
                | (go_simp; with_reducible rfl)
            simp only [Act.put, List.setIfInBounds_toArray, List.set_cons_zero, List.set_cons_succ]
            clear hS1
            have yf := block_free HPc.out.sigs; have yl := block_lt HPc.out.sigs; have yc := two_cell HPc.out.sigs hlt
            refine wpAnyH_ready (rs := [12]) (by kernel_rfl) (by simp) ?_
            refine AllReadyH.cons rfl (fun K hK => ?_) AllReadyH.nil
            rw [if_pos (by kernel_rfl)]
            go_simp
            have HPd := Lib.hid (HPc.out.set hlt (v := .slice (some ⟨gs, 0, none⟩) 2 2) (o := some (signE L1 ⟨kS k, dY⟩).2) ⟨gs, rfl, HSg.out⟩ hg11x)
            obtain ⟨w9, hw9⟩ : ∃ u, u = v2.setCell ⟨g11, k, none⟩ (.slice (some ⟨gs, 0, none⟩) 2 2) := ⟨_, rfl⟩
            rw [← hw9] at HPd
            rw [← hw9]
            clear hw9 yf yl yc HPc HPb HPa HSg
            refine hK.out _ _ HPd.out.low (fun _ => ?_)
            clear hK K
            simp only [List.setIfInBounds_toArray, List.set_cons_zero, List.set_cons_succ]
            refine wpAnyH_done (by kernel_rfl) ?_ _
            rw [putQ_putQ] at HPd
            obtain ⟨V2, HPe⟩ : ∃ V2, Hid (PvS x g10 g11 w9 (oldL true (kS k) dY L1) V2 (putQ q k (newQ true (kS k) dY L1 Q1))) := ⟨_, HPd⟩
            clear HPd
            cases hsg : sgAll N O dX dY k with
            | false =>
              have HSG := Lib.hid hsg
              clear hsg
              go_upto_region 20 with fail
              have HPf := Lib.hid (HPe.out.below (Below.refl _ _).drew)
              have hS1 := HPf.out.low
              refine wp_region_held_drew (S := fun w' => Below x.heap.size x w') (by kernel_rfl) hS1 (fun hHeld => ?_)
              rw [show Array.replicate _ false = (#[false, false, false, false, false, false, false, false, false, false, false, false, false, false, false, false, false, false, false, false, false] : Array Bool) from rfl]
              generalize hws : World.drew _ = z0 at *
              clear hws
              refine takeH 0 (some 77) (v := ?_) rfl (by kernel_rfl) (by kernel_rfl) (by kernel_rfl) (by kernel_rfl) (fun _ _ _ h => h) (Or.inl ⟨by kernel_rfl, ?hy⟩) (by assumption) ?_
              case hy =>
                intro w' hSw
                clear hSw
                first
                  | (go_simp; done)
                  | (go_simp; with_reducible rfl)
              simp only [Act.put, List.setIfInBounds_toArray, List.set_cons_zero, List.set_cons_succ]
              refine takeH 1 (some 78) (v := ?_) rfl (by kernel_rfl) (by kernel_rfl) (by kernel_rfl) (by kernel_rfl) (fun _ _ _ h => h) (Or.inl ⟨by kernel_rfl, ?hy⟩) (by assumption) ?_
              case hy =>
                intro w' hSw
                clear hSw
                first
                  | (go_simp; done)
                  | (go_simp; with_reducible rfl)
              simp only [Act.put, List.setIfInBounds_toArray, List.set_cons_zero, List.set_cons_succ]
              refine takeH 2 (some 79) (v := undef) rfl (by kernel_rfl) (by kernel_rfl) (by kernel_rfl) (by kernel_rfl) (fun _ _ _ h => h) (Or.inr ⟨by kernel_rfl, rfl⟩) (by assumption) ?_
              simp only [Act.put, List.setIfInBounds_toArray, List.set_cons_zero, List.set_cons_succ]
              refine takeH 3 (some 80) (v := undef) rfl (by kernel_rfl) (by kernel_rfl) (by kernel_rfl) (by kernel_rfl) (fun _ _ _ h => h) (Or.inr ⟨by kernel_rfl, rfl⟩) (by assumption) ?_
              simp only [Act.put, List.setIfInBounds_toArray, List.set_cons_zero, List.set_cons_succ]
              refine takeH 4 (some 81) (v := undef) rfl (by kernel_rfl) (by kernel_rfl) (by kernel_rfl) (by kernel_rfl) (fun _ _ _ h => h) (Or.inr ⟨by kernel_rfl, rfl⟩) (by assumption) ?_
              simp only [Act.put, List.setIfInBounds_toArray, List.set_cons_zero, List.set_cons_succ]
              refine takeH 5 (some 82) (v := undef) rfl (by kernel_rfl) (by kernel_rfl) (by kernel_rfl) (by kernel_rfl) (fun _ _ _ h => h) (Or.inr ⟨by kernel_rfl, rfl⟩) (by assumption) ?_
              simp only [Act.put, List.setIfInBounds_toArray, List.set_cons_zero, List.set_cons_succ]
              refine takeH 6 (some 83) (v := undef) rfl (by kernel_rfl) (by kernel_rfl) (by kernel_rfl) (by kernel_rfl) (fun _ _ _ h => h) (Or.inr ⟨by kernel_rfl, rfl⟩) (by assumption) ?_
              simp only [Act.put, List.setIfInBounds_toArray, List.set_cons_zero, List.set_cons_succ]
              refine takeH 7 (some 84) (v := undef) rfl (by kernel_rfl) (by kernel_rfl) (by kernel_rfl) (by kernel_rfl) (fun _ _ _ h => h) (Or.inr ⟨by kernel_rfl, rfl⟩) (by assumption) ?_
              simp only [Act.put, List.setIfInBounds_toArray, List.set_cons_zero, List.set_cons_succ]
              refine takeH 8 (some 85) (v := undef) rfl (by kernel_rfl) (by kernel_rfl) (by kernel_rfl) (by kernel_rfl) (fun _ _ _ h => h) (Or.inr ⟨by kernel_rfl, rfl⟩) (by assumption) ?_
              simp only [Act.put, List.setIfInBounds_toArray, List.set_cons_zero, List.set_cons_succ]
              refine takeH 9 (some 86) (v := undef) rfl (by kernel_rfl) (by kernel_rfl) (by kernel_rfl) (by kernel_rfl) (fun _ _ _ h => h) (Or.inr ⟨by kernel_rfl, rfl⟩) (by assumption) ?_
              simp only [Act.put, List.setIfInBounds_toArray, List.set_cons_zero, List.set_cons_succ]
              refine takeH 10 (some 87) (v := undef) rfl (by kernel_rfl) (by kernel_rfl) (by kernel_rfl) (by kernel_rfl) (fun _ _ _ h => h) (Or.inr ⟨by kernel_rfl, rfl⟩) (by assumption) ?_
              simp only [Act.put, List.setIfInBounds_toArray, List.set_cons_zero, List.set_cons_succ]
              refine takeH 11 (some 88) (v := undef) rfl (by kernel_rfl) (by kernel_rfl) (by kernel_rfl) (by kernel_rfl) (fun _ _ _ h => h) (Or.inr ⟨by kernel_rfl, rfl⟩) (by assumption) ?_
              simp only [Act.put, List.setIfInBounds_toArray, List.set_cons_zero, List.set_cons_succ]
              refine takeH 12 (some 89) (v := undef) rfl (by kernel_rfl) (by kernel_rfl) (by kernel_rfl) (by kernel_rfl) (fun _ _ _ h => h) (Or.inr ⟨by kernel_rfl, rfl⟩) (by assumption) ?_
              simp only [Act.put, List.setIfInBounds_toArray, List.set_cons_zero, List.set_cons_succ]
              refine takeH 13 (some 90) (v := undef) rfl (by kernel_rfl) (by kernel_rfl) (by kernel_rfl) (by kernel_rfl) (fun _ _ _ h => h) (Or.inr ⟨by kernel_rfl, rfl⟩) (by assumption) ?_
              simp only [Act.put, List.setIfInBounds_toArray, List.set_cons_zero, List.set_cons_succ]
              refine takeH 14 (some 91) (v := undef) rfl (by kernel_rfl) (by kernel_rfl) (by kernel_rfl) (by kernel_rfl) (fun _ _ _ h => h) (Or.inr ⟨by kernel_rfl, rfl⟩) (by assumption) ?_
              simp only [Act.put, List.setIfInBounds_toArray, List.set_cons_zero, List.set_cons_succ]
              refine takeH 15 (some 92) (v := undef) rfl (by kernel_rfl) (by kernel_rfl) (by kernel_rfl) (by kernel_rfl) (fun _ _ _ h => h) (Or.inr ⟨by kernel_rfl, rfl⟩) (by assumption) ?_
              simp only [Act.put, List.setIfInBounds_toArray, List.set_cons_zero, List.set_cons_succ]
              refine takeH 16 (some 93) (v := undef) rfl (by kernel_rfl) (by kernel_rfl) (by kernel_rfl) (by kernel_rfl) (fun _ _ _ h => h) (Or.inr ⟨by kernel_rfl, rfl⟩) (by assumption) ?_
              simp only [Act.put, List.setIfInBounds_toArray, List.set_cons_zero, List.set_cons_succ]
              refine takeH 17 (some 94) (v := undef) rfl (by kernel_rfl) (by kernel_rfl) (by kernel_rfl) (by kernel_rfl) (fun _ _ _ h => h) (Or.inr ⟨by kernel_rfl, rfl⟩) (by assumption) ?_
              simp only [Act.put, List.setIfInBounds_toArray, List.set_cons_zero, List.set_cons_succ]
              refine takeH 18 (some 95) (v := undef) rfl (by kernel_rfl) (by kernel_rfl) (by kernel_rfl) (by kernel_rfl) (fun _ _ _ h => h) (Or.inr ⟨by kernel_rfl, rfl⟩) (by assumption) ?_
              simp only [Act.put, List.setIfInBounds_toArray, List.set_cons_zero, List.set_cons_succ]
              refine takeH 19 (some 96) (v := ?_) rfl (by kernel_rfl) (by kernel_rfl) (by kernel_rfl) (by kernel_rfl) (fun _ _ _ h => h) (Or.inl ⟨by kernel_rfl, ?hy⟩) (by assumption) ?_
              case hy =>
                intro w' hSw
                clear hSw
                first
                  | (go_simp; done)
                  | (go_simp; with_reducible rfl)
              simp only [Act.put, List.setIfInBounds_toArray, List.set_cons_zero, List.set_cons_succ]
              refine takeH 20 (some 12) (v := ?_) rfl (by kernel_rfl) (by kernel_rfl) (by kernel_rfl) (by kernel_rfl) (fun _ _ _ h => h) (Or.inl ⟨by kernel_rfl, ?hy⟩) (by assumption) ?_
              case hy =>
                intro w' hSw
                clear hSw
                first
                  | (go_simp; done)
                  | (go_simp; with_reducible rfl)
              simp only [Act.put, List.setIfInBounds_toArray, List.set_cons_zero, List.set_cons_succ]
              refine wpAnyH_done (by kernel_rfl) ?_ _
              clear hS1
              go_wp2
              go_roundw
              case rel => exact ⟨k + 1, _, _, _, by omega, by rw [sgAll_succ, HSG.out]; rfl, by go_num, HPf, HNx, Lib.hid (fun j hj => by rw [putQ_far (by omega)]; exact HQn.out j (by omega))⟩
              case measure => simp [RowKit.intOf]; omega
            | true =>
              have HSG := Lib.hid hsg
              clear hsg
              have hfn : ∀ w', Below x.heap.size x w' → w'.cell? ⟨w.heap.size + 1 + 1, k, none⟩ = some (.bool true) := fun w' hw => (HFN.out k hlt w' hw).trans (by rw [HNk.out])
              go_upto_region 20 with fail
              have HPf := Lib.hid (HPe.out.below (Below.refl _ _).drew)
              have hS1 := HPf.out.low
              refine wp_region_held_drew (S := fun w' => Below x.heap.size x w') (by kernel_rfl) hS1 (fun hHeld => ?_)
              rw [show Array.replicate _ false = (#[false, false, false, false, false, false, false, false, false, false, false, false, false, false, false, false, false, false, false, false, false] : Array Bool) from rfl]
              generalize hws : World.drew _ = z0 at *
              clear hws
              refine takeH 0 (some 77) (v := ?_) rfl (by kernel_rfl) (by kernel_rfl) (by kernel_rfl) (by kernel_rfl) (fun _ _ _ h => h) (Or.inl ⟨by kernel_rfl, ?hy⟩) (by assumption) ?_
              case hy =>
                intro w' hSw
                clear hSw
                first
                  | (go_simp; done)
                  | (go_simp; with_reducible rfl)
              simp only [Act.put, List.setIfInBounds_toArray, List.set_cons_zero, List.set_cons_succ]
              refine takeH 1 (some 78) (v := ?_) rfl (by kernel_rfl) (by kernel_rfl) (by kernel_rfl) (by kernel_rfl) (fun _ _ _ h => h) (Or.inl ⟨by kernel_rfl, ?hy⟩) (by assumption) ?_
              case hy =>
                intro w' hSw
                clear hSw
                first
                  | (go_simp; done)
                  | (go_simp; with_reducible rfl)
              simp only [Act.put, List.setIfInBounds_toArray, List.set_cons_zero, List.set_cons_succ]
              refine takeH 2 (some 79) (v := ?_) rfl (by kernel_rfl) (by kernel_rfl) (by kernel_rfl) (by kernel_rfl) (fun _ _ _ h => h) (Or.inl ⟨by kernel_rfl, ?hy⟩) (by assumption) ?_
              case hy =>
                intro w' hSw
                clear hSw
                first
                  | (go_simp; done)
                  | (go_simp; with_reducible rfl)
              simp only [Act.put, List.setIfInBounds_toArray, List.set_cons_zero, List.set_cons_succ]
              refine takeH 3 (some 80) (v := ?_) rfl (by kernel_rfl) (by kernel_rfl) (by kernel_rfl) (by kernel_rfl) (fun _ _ _ h => h) (Or.inl ⟨by kernel_rfl, ?hy⟩) (by assumption) ?_
              case hy =>
                intro w' hSw
                clear hSw
                first
                  | (go_simp; done)
                  | (go_simp; with_reducible rfl)
              simp only [Act.put, List.setIfInBounds_toArray, List.set_cons_zero, List.set_cons_succ]
              refine takeH 4 (some 81) (v := ?_) rfl (by kernel_rfl) (by kernel_rfl) (by kernel_rfl) (by kernel_rfl) (fun _ _ _ h => h) (Or.inl ⟨by kernel_rfl, ?hy⟩) (by assumption) ?_
              case hy =>
                intro w' hSw
                clear hSw
                first
                  | (go_simp; done)
                  | (go_simp; with_reducible rfl)
              simp only [Act.put, List.setIfInBounds_toArray, List.set_cons_zero, List.set_cons_succ]
              refine takeH 5 (some 82) (v := ?_) rfl (by kernel_rfl) (by kernel_rfl) (by kernel_rfl) (by kernel_rfl) (fun _ _ _ h => h) (Or.inl ⟨by kernel_rfl, ?hy⟩) (by assumption) ?_
              case hy =>
                intro w' hSw
                have hx := hfn w' hSw
                have hxl : w.heap.size + 1 + 1 < w'.heap.size := Nat.lt_of_lt_of_le hl5 hSw.size
                clear hSw
                first
                  | (go_simp; done)
                  | (go_simp; with_reducible rfl)
              simp only [Act.put, List.setIfInBounds_toArray, List.set_cons_zero, List.set_cons_succ]
              refine takeH 6 (some 83) (v := ?_) rfl (by kernel_rfl) (by kernel_rfl) (by kernel_rfl) (by kernel_rfl) (fun _ _ _ h => h) (Or.inl ⟨by kernel_rfl, ?hy⟩) (by assumption) ?_
              case hy =>
                intro w' hSw
                clear hSw
                first
                  | (go_simp; done)
                  | (go_simp; with_reducible rfl)
              simp only [Act.put, List.setIfInBounds_toArray, List.set_cons_zero, List.set_cons_succ]
              refine takeH 7 (some 84) (v := undef) rfl (by kernel_rfl) (by kernel_rfl) (by kernel_rfl) (by kernel_rfl) (fun _ _ _ h => h) (Or.inr ⟨by kernel_rfl, rfl⟩) (by assumption) ?_
              simp only [Act.put, List.setIfInBounds_toArray, List.set_cons_zero, List.set_cons_succ]
              refine takeH 8 (some 85) (v := undef) rfl (by kernel_rfl) (by kernel_rfl) (by kernel_rfl) (by kernel_rfl) (fun _ _ _ h => h) (Or.inr ⟨by kernel_rfl, rfl⟩) (by assumption) ?_
              simp only [Act.put, List.setIfInBounds_toArray, List.set_cons_zero, List.set_cons_succ]
              refine takeH 9 (some 86) (v := undef) rfl (by kernel_rfl) (by kernel_rfl) (by kernel_rfl) (by kernel_rfl) (fun _ _ _ h => h) (Or.inr ⟨by kernel_rfl, rfl⟩) (by assumption) ?_
              simp only [Act.put, List.setIfInBounds_toArray, List.set_cons_zero, List.set_cons_succ]
              refine takeH 10 (some 87) (v := undef) rfl (by kernel_rfl) (by kernel_rfl) (by kernel_rfl) (by kernel_rfl) (fun _ _ _ h => h) (Or.inr ⟨by kernel_rfl, rfl⟩) (by assumption) ?_
              simp only [Act.put, List.setIfInBounds_toArray, List.set_cons_zero, List.set_cons_succ]
              refine takeH 11 (some 88) (v := undef) rfl (by kernel_rfl) (by kernel_rfl) (by kernel_rfl) (by kernel_rfl) (fun _ _ _ h => h) (Or.inr ⟨by kernel_rfl, rfl⟩) (by assumption) ?_
              simp only [Act.put, List.setIfInBounds_toArray, List.set_cons_zero, List.set_cons_succ]
              refine takeH 12 (some 89) (v := undef) rfl (by kernel_rfl) (by kernel_rfl) (by kernel_rfl) (by kernel_rfl) (fun _ _ _ h => h) (Or.inr ⟨by kernel_rfl, rfl⟩) (by assumption) ?_
              simp only [Act.put, List.setIfInBounds_toArray, List.set_cons_zero, List.set_cons_succ]
              refine takeH 13 (some 90) (v := undef) rfl (by kernel_rfl) (by kernel_rfl) (by kernel_rfl) (by kernel_rfl) (fun _ _ _ h => h) (Or.inr ⟨by kernel_rfl, rfl⟩) (by assumption) ?_
              simp only [Act.put, List.setIfInBounds_toArray, List.set_cons_zero, List.set_cons_succ]
              refine takeH 14 (some 91) (v := undef) rfl (by kernel_rfl) (by kernel_rfl) (by kernel_rfl) (by kernel_rfl) (fun _ _ _ h => h) (Or.inr ⟨by kernel_rfl, rfl⟩) (by assumption) ?_
              simp only [Act.put, List.setIfInBounds_toArray, List.set_cons_zero, List.set_cons_succ]
              refine takeH 15 (some 92) (v := undef) rfl (by kernel_rfl) (by kernel_rfl) (by kernel_rfl) (by kernel_rfl) (fun _ _ _ h => h) (Or.inr ⟨by kernel_rfl, rfl⟩) (by assumption) ?_
              simp only [Act.put, List.setIfInBounds_toArray, List.set_cons_zero, List.set_cons_succ]
              refine takeH 16 (some 93) (v := undef) rfl (by kernel_rfl) (by kernel_rfl) (by kernel_rfl) (by kernel_rfl) (fun _ _ _ h => h) (Or.inr ⟨by kernel_rfl, rfl⟩) (by assumption) ?_
              simp only [Act.put, List.setIfInBounds_toArray, List.set_cons_zero, List.set_cons_succ]
              refine takeH 17 (some 94) (v := undef) rfl (by kernel_rfl) (by kernel_rfl) (by kernel_rfl) (by kernel_rfl) (fun _ _ _ h => h) (Or.inr ⟨by kernel_rfl, rfl⟩) (by assumption) ?_
              simp only [Act.put, List.setIfInBounds_toArray, List.set_cons_zero, List.set_cons_succ]
              refine takeH 18 (some 95) (v := ?_) rfl (by kernel_rfl) (by kernel_rfl) (by kernel_rfl) (by kernel_rfl) (fun _ _ _ h => h) (Or.inl ⟨by kernel_rfl, ?hy⟩) (by assumption) ?_
              case hy =>
                intro w' hSw
                clear hSw
                first
                  | (go_simp; done)
                  | (go_simp; with_reducible rfl)
              simp only [Act.put, List.setIfInBounds_toArray, List.set_cons_zero, List.set_cons_succ]
              refine takeH 19 (some 96) (v := ?_) rfl (by kernel_rfl) (by kernel_rfl) (by kernel_rfl) (by kernel_rfl) (fun _ _ _ h => h) (Or.inl ⟨by kernel_rfl, ?hy⟩) (by assumption) ?_
              case hy =>
                intro w' hSw
                clear hSw
                first
                  | (go_simp; done)
                  | (go_simp; with_reducible rfl)
              simp only [Act.put, List.setIfInBounds_toArray, List.set_cons_zero, List.set_cons_succ]
              refine takeH 20 (some 12) (v := ?_) rfl (by kernel_rfl) (by kernel_rfl) (by kernel_rfl) (by kernel_rfl) (fun _ _ _ h => h) (Or.inl ⟨by kernel_rfl, ?hy⟩) (by assumption) ?_
              case hy =>
                intro w' hSw
                clear hSw
                first
                  | (go_simp; done)
                  | (go_simp; with_reducible rfl)
              simp only [Act.put, List.setIfInBounds_toArray, List.set_cons_zero, List.set_cons_succ]
              refine wpAnyH_done (by kernel_rfl) ?_ _
              clear hS1 hfn
              go_wp2
              go_roundw
              case rel => exact ⟨k + 1, _, _, _, by omega, by rw [sgAll_succ, HSG.out]; unfold sgnd; rw [HNk.out]; rfl, by go_num, HPf, HNx, Lib.hid (fun j hj => by rw [putQ_far (by omega)]; exact HQn.out j (by omega))⟩
              case measure => simp [RowKit.intOf]; omega
          | false =>
            have HNk := Lib.hid hNk
            have HNx := Lib.hid (show SgI N O dX dY (k + 1) (oldL false (kS k) dY L1) (putQ q k (newQ false (kS k) dY L1 Q1)) from by have h1 := HNx0.out; rw [hNk] at h1; exact h1)
            have yn := (HFN.out k hlt _ HPs.out.low).trans (by rw [hNk])
            have hl5' := Nat.lt_of_lt_of_le hl5 HPs.out.low.size
            clear hNk
            have HPe : Hid (PvS x g10 g11 _ (oldL false (kS k) dY L1) V1 (putQ q k (newQ false (kS k) dY L1 Q1))) := HPs
            cases hsg : sgAll N O dX dY k with
            | false =>
              have HSG := Lib.hid hsg
              clear hsg
              go_upto_region 20 with fail
              have HPf := Lib.hid (HPe.out.below (Below.refl _ _).drew)
              have hS1 := HPf.out.low
              refine wp_region_held_drew (S := fun w' => Below x.heap.size x w') (by kernel_rfl) hS1 (fun hHeld => ?_)
              rw [show Array.replicate _ false = (#[false, false, false, false, false, false, false, false, false, false, false, false, false, false, false, false, false, false, false, false, false] : Array Bool) from rfl]
              generalize hws : World.drew _ = z0 at *
              clear hws
              refine takeH 0 (some 77) (v := ?_) rfl (by kernel_rfl) (by kernel_rfl) (by kernel_rfl) (by kernel_rfl) (fun _ _ _ h => h) (Or.inl ⟨by kernel_rfl, ?hy⟩) (by assumption) ?_
              case hy =>
                intro w' hSw
                clear hSw
                first
                  | (go_simp; done)
                  | (go_simp; with_reducible rfl)
              simp only [Act.put, List.setIfInBounds_toArray, List.set_cons_zero, List.set_cons_succ]
              refine takeH 1 (some 78) (v := ?_) rfl (by kernel_rfl) (by kernel_rfl) (by kernel_rfl) (by kernel_rfl) (fun _ _ _ h => h) (Or.inl ⟨by kernel_rfl, ?hy⟩) (by assumption) ?_
              case hy =>
                intro w' hSw
                clear hSw
                first
                  | (go_simp; done)
                  | (go_simp; with_reducible rfl)
              simp only [Act.put, List.setIfInBounds_toArray, List.set_cons_zero, List.set_cons_succ]
              refine takeH 2 (some 79) (v := undef) rfl (by kernel_rfl) (by kernel_rfl) (by kernel_rfl) (by kernel_rfl) (fun _ _ _ h => h) (Or.inr ⟨by kernel_rfl, rfl⟩) (by assumption) ?_
              simp only [Act.put, List.setIfInBounds_toArray, List.set_cons_zero, List.set_cons_succ]
              refine takeH 3 (some 80) (v := undef) rfl (by kernel_rfl) (by kernel_rfl) (by kernel_rfl) (by kernel_rfl) (fun _ _ _ h => h) (Or.inr ⟨by kernel_rfl, rfl⟩) (by assumption) ?_
              simp only [Act.put, List.setIfInBounds_toArray, List.set_cons_zero, List.set_cons_succ]
              refine takeH 4 (some 81) (v := undef) rfl (by kernel_rfl) (by kernel_rfl) (by kernel_rfl) (by kernel_rfl) (fun _ _ _ h => h) (Or.inr ⟨by kernel_rfl, rfl⟩) (by assumption) ?_
              simp only [Act.put, List.setIfInBounds_toArray, List.set_cons_zero, List.set_cons_succ]
              refine takeH 5 (some 82) (v := undef) rfl (by kernel_rfl) (by kernel_rfl) (by kernel_rfl) (by kernel_rfl) (fun _ _ _ h => h) (Or.inr ⟨by kernel_rfl, rfl⟩) (by assumption) ?_
              simp only [Act.put, List.setIfInBounds_toArray, List.set_cons_zero, List.set_cons_succ]
              refine takeH 6 (some 83) (v := undef) rfl (by kernel_rfl) (by kernel_rfl) (by kernel_rfl) (by kernel_rfl) (fun _ _ _ h => h) (Or.inr ⟨by kernel_rfl, rfl⟩) (by assumption) ?_
              simp only [Act.put, List.setIfInBounds_toArray, List.set_cons_zero, List.set_cons_succ]
              refine takeH 7 (some 84) (v := undef) rfl (by kernel_rfl) (by kernel_rfl) (by kernel_rfl) (by kernel_rfl) (fun _ _ _ h => h) (Or.inr ⟨by kernel_rfl, rfl⟩) (by assumption) ?_
              simp only [Act.put, List.setIfInBounds_toArray, List.set_cons_zero, List.set_cons_succ]
              refine takeH 8 (some 85) (v := undef) rfl (by kernel_rfl) (by kernel_rfl) (by kernel_rfl) (by kernel_rfl) (fun _ _ _ h => h) (Or.inr ⟨by kernel_rfl, rfl⟩) (by assumption) ?_
              simp only [Act.put, List.setIfInBounds_toArray, List.set_cons_zero, List.set_cons_succ]
              refine takeH 9 (some 86) (v := undef) rfl (by kernel_rfl) (by kernel_rfl) (by kernel_rfl) (by kernel_rfl) (fun _ _ _ h => h) (Or.inr ⟨by kernel_rfl, rfl⟩) (by assumption) ?_
              simp only [Act.put, List.setIfInBounds_toArray, List.set_cons_zero, List.set_cons_succ]
              refine takeH 10 (some 87) (v := undef) rfl (by kernel_rfl) (by kernel_rfl) (by kernel_rfl) (by kernel_rfl) (fun _ _ _ h => h) (Or.inr ⟨by kernel_rfl, rfl⟩) (by assumption) ?_
              simp only [Act.put, List.setIfInBounds_toArray, List.set_cons_zero, List.set_cons_succ]
              refine takeH 11 (some 88) (v := undef) rfl (by kernel_rfl) (by kernel_rfl) (by kernel_rfl) (by kernel_rfl) (fun _ _ _ h => h) (Or.inr ⟨by kernel_rfl, rfl⟩) (by assumption) ?_
              simp only [Act.put, List.setIfInBounds_toArray, List.set_cons_zero, List.set_cons_succ]
              refine takeH 12 (some 89) (v := undef) rfl (by kernel_rfl) (by kernel_rfl) (by kernel_rfl) (by kernel_rfl) (fun _ _ _ h => h) (Or.inr ⟨by kernel_rfl, rfl⟩) (by assumption) ?_
              simp only [Act.put, List.setIfInBounds_toArray, List.set_cons_zero, List.set_cons_succ]
              refine takeH 13 (some 90) (v := undef) rfl (by kernel_rfl) (by kernel_rfl) (by kernel_rfl) (by kernel_rfl) (fun _ _ _ h => h) (Or.inr ⟨by kernel_rfl, rfl⟩) (by assumption) ?_
              simp only [Act.put, List.setIfInBounds_toArray, List.set_cons_zero, List.set_cons_succ]
              refine takeH 14 (some 91) (v := undef) rfl (by kernel_rfl) (by kernel_rfl) (by kernel_rfl) (by kernel_rfl) (fun _ _ _ h => h) (Or.inr ⟨by kernel_rfl, rfl⟩) (by assumption) ?_
              simp only [Act.put, List.setIfInBounds_toArray, List.set_cons_zero, List.set_cons_succ]
              refine takeH 15 (some 92) (v := undef) rfl (by kernel_rfl) (by kernel_rfl) (by kernel_rfl) (by kernel_rfl) (fun _ _ _ h => h) (Or.inr ⟨by kernel_rfl, rfl⟩) (by assumption) ?_
              simp only [Act.put, List.setIfInBounds_toArray, List.set_cons_zero, List.set_cons_succ]
              refine takeH 16 (some 93) (v := undef) rfl (by kernel_rfl) (by kernel_rfl) (by kernel_rfl) (by kernel_rfl) (fun _ _ _ h => h) (Or.inr ⟨by kernel_rfl, rfl⟩) (by assumption) ?_
              simp only [Act.put, List.setIfInBounds_toArray, List.set_cons_zero, List.set_cons_succ]
              refine takeH 17 (some 94) (v := undef) rfl (by kernel_rfl) (by kernel_rfl) (by kernel_rfl) (by kernel_rfl) (fun _ _ _ h => h) (Or.inr ⟨by kernel_rfl, rfl⟩) (by assumption) ?_
              simp only [Act.put, List.setIfInBounds_toArray, List.set_cons_zero, List.set_cons_succ]
              refine takeH 18 (some 95) (v := undef) rfl (by kernel_rfl) (by kernel_rfl) (by kernel_rfl) (by kernel_rfl) (fun _ _ _ h => h) (Or.inr ⟨by kernel_rfl, rfl⟩) (by assumption) ?_
              simp only [Act.put, List.setIfInBounds_toArray, List.set_cons_zero, List.set_cons_succ]
              refine takeH 19 (some 96) (v := ?_) rfl (by kernel_rfl) (by kernel_rfl) (by kernel_rfl) (by kernel_rfl) (fun _ _ _ h => h) (Or.inl ⟨by kernel_rfl, ?hy⟩) (by assumption) ?_
              case hy =>
                intro w' hSw
                clear hSw
                first
                  | (go_simp; done)
                  | (go_simp; with_reducible rfl)
              simp only [Act.put, List.setIfInBounds_toArray, List.set_cons_zero, List.set_cons_succ]
              refine takeH 20 (some 12) (v := ?_) rfl (by kernel_rfl) (by kernel_rfl) (by kernel_rfl) (by kernel_rfl) (fun _ _ _ h => h) (Or.inl ⟨by kernel_rfl, ?hy⟩) (by assumption) ?_
              case hy =>
                intro w' hSw
                clear hSw
                first
                  | (go_simp; done)
                  | (go_simp; with_reducible rfl)
              simp only [Act.put, List.setIfInBounds_toArray, List.set_cons_zero, List.set_cons_succ]
              refine wpAnyH_done (by kernel_rfl) ?_ _
              clear hS1
              go_wp2
              go_roundw
              case rel => exact ⟨k + 1, _, _, _, by omega, by rw [sgAll_succ, HSG.out]; rfl, by go_num, HPf, HNx, Lib.hid (fun j hj => by rw [putQ_far (by omega)]; exact HQn.out j (by omega))⟩
              case measure => simp [RowKit.intOf]; omega
            | true =>
              have HSG := Lib.hid hsg
              clear hsg
              have hfn : ∀ w', Below x.heap.size x w' → w'.cell? ⟨w.heap.size + 1 + 1, k, none⟩ = some (.bool false) := fun w' hw => (HFN.out k hlt w' hw).trans (by rw [HNk.out])
              have hfo : ∀ w', Below x.heap.size x w' → w'.cell? ⟨w.heap.size + 1 + 1, 2 + k, none⟩ = some (.bool false) := fun w' hw => (HFO.out k hlt w' hw).trans (by rw [HOk.out])
              go_upto_region 20 with fail
              have HPf := Lib.hid (HPe.out.below (Below.refl _ _).drew)
              have hS1 := HPf.out.low
              refine wp_region_held_drew (S := fun w' => Below x.heap.size x w') (by kernel_rfl) hS1 (fun hHeld => ?_)
              rw [show Array.replicate _ false = (#[false, false, false, false, false, false, false, false, false, false, false, false, false, false, false, false, false, false, false, false, false] : Array Bool) from rfl]
              generalize hws : World.drew _ = z0 at *
              clear hws
              refine takeH 0 (some 77) (v := ?_) rfl (by kernel_rfl) (by kernel_rfl) (by kernel_rfl) (by kernel_rfl) (fun _ _ _ h => h) (Or.inl ⟨by kernel_rfl, ?hy⟩) (by assumption) ?_
              case hy =>
                intro w' hSw
                clear hSw
                first
                  | (go_simp; done)
                  | (go_simp; with_reducible rfl)
              simp only [Act.put, List.setIfInBounds_toArray, List.set_cons_zero, List.set_cons_succ]
              refine takeH 1 (some 78) (v := ?_) rfl (by kernel_rfl) (by kernel_rfl) (by kernel_rfl) (by kernel_rfl) (fun _ _ _ h => h) (Or.inl ⟨by kernel_rfl, ?hy⟩) (by assumption) ?_
              case hy =>
                intro w' hSw
                clear hSw
                first
                  | (go_simp; done)
                  | (go_simp; with_reducible rfl)
              simp only [Act.put, List.setIfInBounds_toArray, List.set_cons_zero, List.set_cons_succ]
              refine takeH 2 (some 79) (v := ?_) rfl (by kernel_rfl) (by kernel_rfl) (by kernel_rfl) (by kernel_rfl) (fun _ _ _ h => h) (Or.inl ⟨by kernel_rfl, ?hy⟩) (by assumption) ?_
              case hy =>
                intro w' hSw
                clear hSw
                first
                  | (go_simp; done)
                  | (go_simp; with_reducible rfl)
              simp only [Act.put, List.setIfInBounds_toArray, List.set_cons_zero, List.set_cons_succ]
              refine takeH 3 (some 80) (v := ?_) rfl (by kernel_rfl) (by kernel_rfl) (by kernel_rfl) (by kernel_rfl) (fun _ _ _ h => h) (Or.inl ⟨by kernel_rfl, ?hy⟩) (by assumption) ?_
              case hy =>
                intro w' hSw
                clear hSw
                first
                  | (go_simp; done)
                  | (go_simp; with_reducible rfl)
              simp only [Act.put, List.setIfInBounds_toArray, List.set_cons_zero, List.set_cons_succ]
              refine takeH 4 (some 81) (v := ?_) rfl (by kernel_rfl) (by kernel_rfl) (by kernel_rfl) (by kernel_rfl) (fun _ _ _ h => h) (Or.inl ⟨by kernel_rfl, ?hy⟩) (by assumption) ?_
              case hy =>
                intro w' hSw
                clear hSw
                first
                  | (go_simp; done)
                  | (go_simp; with_reducible rfl)
              simp only [Act.put, List.setIfInBounds_toArray, List.set_cons_zero, List.set_cons_succ]
              refine takeH 5 (some 82) (v := ?_) rfl (by kernel_rfl) (by kernel_rfl) (by kernel_rfl) (by kernel_rfl) (fun _ _ _ h => h) (Or.inl ⟨by kernel_rfl, ?hy⟩) (by assumption) ?_
              case hy =>
                intro w' hSw
                have hx := hfn w' hSw
                have hxl : w.heap.size + 1 + 1 < w'.heap.size := Nat.lt_of_lt_of_le hl5 hSw.size
                clear hSw
                first
                  | (go_simp; done)
                  | (go_simp; with_reducible rfl)
              simp only [Act.put, List.setIfInBounds_toArray, List.set_cons_zero, List.set_cons_succ]
              refine takeH 6 (some 83) (v := ?_) rfl (by kernel_rfl) (by kernel_rfl) (by kernel_rfl) (by kernel_rfl) (fun _ _ _ h => h) (Or.inl ⟨by kernel_rfl, ?hy⟩) (by assumption) ?_
              case hy =>
                intro w' hSw
                clear hSw
                first
                  | (go_simp; done)
                  | (go_simp; with_reducible rfl)
              simp only [Act.put, List.setIfInBounds_toArray, List.set_cons_zero, List.set_cons_succ]
              refine takeH 7 (some 84) (v := ?_) rfl (by kernel_rfl) (by kernel_rfl) (by kernel_rfl) (by kernel_rfl) (fun _ _ _ h => h) (Or.inl ⟨by kernel_rfl, ?hy⟩) (by assumption) ?_
              case hy =>
                intro w' hSw
                clear hSw
                first
                  | (go_simp; done)
                  | (go_simp; with_reducible rfl)
              simp only [Act.put, List.setIfInBounds_toArray, List.set_cons_zero, List.set_cons_succ]
              refine takeH 8 (some 85) (v := ?_) rfl (by kernel_rfl) (by kernel_rfl) (by kernel_rfl) (by kernel_rfl) (fun _ _ _ h => h) (Or.inl ⟨by kernel_rfl, ?hy⟩) (by assumption) ?_
              case hy =>
                intro w' hSw
                clear hSw
                first
                  | (go_simp; done)
                  | (go_simp; with_reducible rfl)
              simp only [Act.put, List.setIfInBounds_toArray, List.set_cons_zero, List.set_cons_succ]
              refine takeH 9 (some 86) (v := ?_) rfl (by kernel_rfl) (by kernel_rfl) (by kernel_rfl) (by kernel_rfl) (fun _ _ _ h => h) (Or.inl ⟨by kernel_rfl, ?hy⟩) (by assumption) ?_
              case hy =>
                intro w' hSw
                clear hSw
                first
                  | (go_simp; done)
                  | (go_simp; with_reducible rfl)
              simp only [Act.put, List.setIfInBounds_toArray, List.set_cons_zero, List.set_cons_succ]
              refine takeH 10 (some 87) (v := ?_) rfl (by kernel_rfl) (by kernel_rfl) (by kernel_rfl) (by kernel_rfl) (fun _ _ _ h => h) (Or.inl ⟨by kernel_rfl, ?hy⟩) (by assumption) ?_
              case hy =>
                intro w' hSw
                have hx := hfo w' hSw
                have hxl : w.heap.size + 1 + 1 < w'.heap.size := Nat.lt_of_lt_of_le hl5 hSw.size
                clear hSw
                first
                  | (go_simp; done)
                  | (go_simp; with_reducible rfl)
              simp only [Act.put, List.setIfInBounds_toArray, List.set_cons_zero, List.set_cons_succ]
              refine takeH 11 (some 88) (v := ?_) rfl (by kernel_rfl) (by kernel_rfl) (by kernel_rfl) (by kernel_rfl) (fun _ _ _ h => h) (Or.inl ⟨by kernel_rfl, ?hy⟩) (by assumption) ?_
              case hy =>
                intro w' hSw
                clear hSw
                first
                  | (go_simp; done)
                  | (go_simp; with_reducible rfl)
              simp only [Act.put, List.setIfInBounds_toArray, List.set_cons_zero, List.set_cons_succ]
              refine takeH 12 (some 89) (v := undef) rfl (by kernel_rfl) (by kernel_rfl) (by kernel_rfl) (by kernel_rfl) (fun _ _ _ h => h) (Or.inr ⟨by kernel_rfl, rfl⟩) (by assumption) ?_
              simp only [Act.put, List.setIfInBounds_toArray, List.set_cons_zero, List.set_cons_succ]
              refine takeH 13 (some 90) (v := undef) rfl (by kernel_rfl) (by kernel_rfl) (by kernel_rfl) (by kernel_rfl) (fun _ _ _ h => h) (Or.inr ⟨by kernel_rfl, rfl⟩) (by assumption) ?_
              simp only [Act.put, List.setIfInBounds_toArray, List.set_cons_zero, List.set_cons_succ]
              refine takeH 14 (some 91) (v := undef) rfl (by kernel_rfl) (by kernel_rfl) (by kernel_rfl) (by kernel_rfl) (fun _ _ _ h => h) (Or.inr ⟨by kernel_rfl, rfl⟩) (by assumption) ?_
              simp only [Act.put, List.setIfInBounds_toArray, List.set_cons_zero, List.set_cons_succ]
              refine takeH 15 (some 92) (v := undef) rfl (by kernel_rfl) (by kernel_rfl) (by kernel_rfl) (by kernel_rfl) (fun _ _ _ h => h) (Or.inr ⟨by kernel_rfl, rfl⟩) (by assumption) ?_
              simp only [Act.put, List.setIfInBounds_toArray, List.set_cons_zero, List.set_cons_succ]
              refine takeH 16 (some 93) (v := undef) rfl (by kernel_rfl) (by kernel_rfl) (by kernel_rfl) (by kernel_rfl) (fun _ _ _ h => h) (Or.inr ⟨by kernel_rfl, rfl⟩) (by assumption) ?_
              simp only [Act.put, List.setIfInBounds_toArray, List.set_cons_zero, List.set_cons_succ]
              refine takeH 17 (some 94) (v := ?_) rfl (by kernel_rfl) (by kernel_rfl) (by kernel_rfl) (by kernel_rfl) (fun _ _ _ h => h) (Or.inl ⟨by kernel_rfl, ?hy⟩) (by assumption) ?_
              case hy =>
                intro w' hSw
                clear hSw
                first
                  | (go_simp; done)
                  | (go_simp; with_reducible rfl)
              simp only [Act.put, List.setIfInBounds_toArray, List.set_cons_zero, List.set_cons_succ]
              refine takeH 18 (some 95) (v := ?_) rfl (by kernel_rfl) (by kernel_rfl) (by kernel_rfl) (by kernel_rfl) (fun _ _ _ h => h) (Or.inl ⟨by kernel_rfl, ?hy⟩) (by assumption) ?_
              case hy =>
                intro w' hSw
                clear hSw
                first
                  | (go_simp; done)
                  | (go_simp; with_reducible rfl)
              simp only [Act.put, List.setIfInBounds_toArray, List.set_cons_zero, List.set_cons_succ]
              refine takeH 19 (some 96) (v := ?_) rfl (by kernel_rfl) (by kernel_rfl) (by kernel_rfl) (by kernel_rfl) (fun _ _ _ h => h) (Or.inl ⟨by kernel_rfl, ?hy⟩) (by assumption) ?_
              case hy =>
                intro w' hSw
                clear hSw
                first
                  | (go_simp; done)
                  | (go_simp; with_reducible rfl)
              simp only [Act.put, List.setIfInBounds_toArray, List.set_cons_zero, List.set_cons_succ]
              refine takeH 20 (some 12) (v := ?_) rfl (by kernel_rfl) (by kernel_rfl) (by kernel_rfl) (by kernel_rfl) (fun _ _ _ h => h) (Or.inl ⟨by kernel_rfl, ?hy⟩) (by assumption) ?_
              case hy =>
                intro w' hSw
                clear hSw
                first
                  | (go_simp; done)
                  | (go_simp; with_reducible rfl)
              simp only [Act.put, List.setIfInBounds_toArray, List.set_cons_zero, List.set_cons_succ]
              refine wpAnyH_done (by kernel_rfl) ?_ _
              clear hS1 hfn hfo
              go_wp2
              go_roundw
              case rel => exact ⟨k + 1, _, _, _, by omega, by rw [sgAll_succ, HSG.out]; unfold sgnd; rw [HNk.out, HOk.out]; rfl, by go_num, HPf, HNx, Lib.hid (fun j hj => by rw [putQ_far (by omega)]; exact HQn.out j (by omega))⟩
              case measure => simp [RowKit.intOf]; omega
      · obtain rfl : k = 2 := by omega
        have hd1 : decide (((2 : Nat) : Int) < 2) = false := by decide
        clear hlt hk HQn
        have HXw := Lib.hid (Hw2.out.trans (Hb2x.out.mono Hw2.out.size))
        have HL0 := Lib.hid (fun (u : World) (hu : Below x.heap.size x u) => show (Instr.loadAt 26 (.pointer (some ⟨w.heap.size, 0, none⟩))).run Try.prog u = .ok (.agg #[.int .u8 (X.nm.x0 : Int), .int .u8 (X.nm.x1 : Int), .int .u8 (X.nm.x2 : Int), .int .u8 (X.nm.x3 : Int), .int .u8 (X.nm.x4 : Int), .int .u8 (X.nm.x5 : Int), .int .u8 (X.nm.x6 : Int), .int .u8 (X.nm.x7 : Int), .int .i64 X.no, .int .i64 X.h0, .int .i64 X.h1, .slice A n c]) u from loadPr (block_below (block_below HX2.out Hb2x.out (block_lt HX2.out)) hu (Nat.lt_of_lt_of_le (block_lt HX2.out) Hb2x.out.size)))
        have HL1 := Lib.hid (fun (u : World) (hu : Below x.heap.size x u) => show (Instr.loadAt 26 (.pointer (some ⟨w.heap.size + 1, 0, none⟩))).run Try.prog u = .ok (.agg #[.int .u8 (Y.nm.x0 : Int), .int .u8 (Y.nm.x1 : Int), .int .u8 (Y.nm.x2 : Int), .int .u8 (Y.nm.x3 : Int), .int .u8 (Y.nm.x4 : Int), .int .u8 (Y.nm.x5 : Int), .int .u8 (Y.nm.x6 : Int), .int .u8 (Y.nm.x7 : Int), .int .i64 Y.no, .int .i64 Y.h0, .int .i64 Y.h1, .slice A' n' c']) u from loadPr (block_below (block_below HY2.out Hb2x.out (block_lt HY2.out)) hu (Nat.lt_of_lt_of_le (block_lt HY2.out) Hb2x.out.size)))
        have HE0 := Lib.hid (fun (u : World) (hu : Below x.heap.size x u) => block_below (block_below HX2.out Hb2x.out (block_lt HX2.out)) hu (Nat.lt_of_lt_of_le (block_lt HX2.out) Hb2x.out.size))
        have HE1 := Lib.hid (fun (u : World) (hu : Below x.heap.size x u) => block_below (block_below HY2.out Hb2x.out (block_lt HY2.out)) hu (Nat.lt_of_lt_of_le (block_lt HY2.out) Hb2x.out.size))
        have HCX := Lib.hid (fun (u : World) (hu : Below x.heap.size x u) => checkr_any X A n c u (HaX.out u (HXw.out.trans (hu.mono HXw.out.size))))
        have HCY := Lib.hid (fun (u : World) (hu : Below x.heap.size x u) => checkr_any Y A' n' c' u (HaY.out u (HXw.out.trans (hu.mono HXw.out.size))))
        have HTX := Lib.hid (fun (u : World) (hu : Below x.heap.size x u) => totalr_any X A n c u (HaX.out u (HXw.out.trans (hu.mono HXw.out.size))))
        have HTY := Lib.hid (fun (u : World) (hu : Below x.heap.size x u) => totalr_any Y A' n' c' u (HaY.out u (HXw.out.trans (hu.mono HXw.out.size))))
        have HNWX : Hid (∀ (u : World) (V : Nat → Value) (q : Nat → Option Nat) (sgF : Bool), PvS x g10 g11 u L V q → allI 2 2 (missTo (lacksE L dY [kS 0, kS 1] [qS (q 0), qS (q 1)] []) 2) = (if sgF then 0 else 16) → Calls Try.prog 10 #[.iface 37 (.pointer (some ⟨x.heap.size + 1, 0, none⟩)), .agg #[.int .u8 ((kS 0).x0 : Int), .int .u8 ((kS 0).x1 : Int), .int .u8 ((kS 0).x2 : Int), .int .u8 ((kS 0).x3 : Int), .int .u8 ((kS 0).x4 : Int), .int .u8 ((kS 0).x5 : Int), .int .u8 ((kS 0).x6 : Int), .int .u8 ((kS 0).x7 : Int), .int .u8 ((kS 1).x0 : Int), .int .u8 ((kS 1).x1 : Int), .int .u8 ((kS 1).x2 : Int), .int .u8 ((kS 1).x3 : Int), .int .u8 ((kS 1).x4 : Int), .int .u8 ((kS 1).x5 : Int), .int .u8 ((kS 1).x6 : Int), .int .u8 ((kS 1).x7 : Int)], Vx, Vy, .agg #[V 0, V 1]] u fun e w' => e = .returned (.int .i64 (newI X Y (if sgF then 0 else 16))) ∧ Below u.heap.size u w') := Lib.hid (by
          intro u V q sgF hP hal
          obtain ⟨B0, m0, d0, h0, hr0⟩ := (hP.val 0 (by decide)).rd
          obtain ⟨B1, m1, d1, h1, hr1⟩ := (hP.val 1 (by decide)).rd
          rw [← hal, HVx.out, HVy.out, HeY.out, h0, h1]
          exact newer_any X Y Ax Ay nx cx ny cy (x.heap.size + 2) (x.heap.size + 1) x.heap.size L (kS 0) (kS 1) B0 B1 m0 d0 m1 d1 (qS (q 0)) (qS (q 1)) u (HAX.out u hP.low) (HAY.out u hP.low) HbY.out hP.book (by have := HI.out.len; omega) (kS_ok (by decide)) (kS_ok (by decide)) hr0 hr1 (qS_ok _) (qS_ok _))
        have Hal := Lib.hid (all_is HI.out HPk.out.book.nodup)
        have Hsw := Lib.hid (all_swap HI.out)
        clear Hne HDX HDY HdX HdY HVx HVy HeX HeY HeN HeO HFN HFO HX2 HY2 HS2 HAX HAY Hox Hoy Hcx Hcy Hx Hy HaX HaY
        have ys := HFS.out wr HPk.out.low
        have hl5' := Nat.lt_of_lt_of_le hl5 HPk.out.low.size
        generalize sgAll N O dX dY 2 = sgF at *
        cases sw with
        | true =>
          have yf := block_free HPk.out.sigs; have yl := block_lt HPk.out.sigs
          have yc0 := two_cell HPk.out.sigs (k := 0) (by decide); have yc1 := two_cell HPk.out.sigs (k := 1) (by decide)
          have hv0 := HPk.out.val 0 (by decide)
          have hv1 := HPk.out.val 1 (by decide)
          obtain ⟨B0, m0, d0, h0, _⟩ := hv0.rd
          obtain ⟨B1, m1, d1, h1, _⟩ := hv1.rd
          rw [h0] at yc0 hv0
          rw [h1] at yc1 hv1
          have HPm := Lib.hid (HPk.out.set (k := 0) (by decide) (v := .slice B1 m1 d1) (o := q 1) hv1 hg11x)
          have HPz := Lib.hid (HPm.out.set (k := 1) (by decide) (v := .slice B0 m0 d0) (o := q 0) (hv0.set (grown_set1 wr g11 0 (.slice B1 m1 d1)) HPk.out.sigs) hg11x)
          clear hv0 hv1 h0 h1
          go_upto_region 24 with fail
          have Halz : Hid (allI 2 2 (missTo (lacksE L dY [kS 0, kS 1] [qS (putQ (putQ q 0 (q 1)) 1 (q 0) 0), qS (putQ (putQ q 0 (q 1)) 1 (q 0) 1)] []) 2) = (if false then 0 else 16)) := Hsw
          clear ys hl5' yf yl yc0 yc1 HPk HPm
          generalize (wr.setCell ⟨g11, 0, none⟩ (.slice B1 m1 d1)).setCell ⟨g11, 1, none⟩ (.slice B0 m0 d0) = wz at *
          obtain ⟨Vz, HPy⟩ : ∃ Vz, Hid (PvS x g10 g11 wz L Vz (putQ (putQ q 0 (q 1)) 1 (q 0))) := ⟨_, HPz⟩
          clear HPz
          have HPz := HPy
          clear HPy
          have h10 := keys_load HPz.out.keys
          have h11 := sigs_load HPz.out.sigs
          have hlx := HLX.out wz HPz.out.low
          have hly := HLY.out wz HPz.out.low
          have HNW := Lib.hid (HNWX.out wz _ _ false HPz.out Halz.out)
          refine wp_region_list ?_
          refine wpList_val (.pointer (some ⟨x.heap.size + 1, 0, none⟩)) (by kernel_rfl) (exec_move (by rfl) (by rfl)) ?_
          simp only [Act.put, List.setIfInBounds_toArray, List.set_cons_zero, List.set_cons_succ]
          refine wpList_val (.iface 37 (.pointer (some ⟨x.heap.size + 1, 0, none⟩))) (by kernel_rfl) (by kernel_rfl) ?_
          simp only [Act.put, List.setIfInBounds_toArray, List.set_cons_zero, List.set_cons_succ]
          refine wpList_val (.agg #[.int .u8 ((kS 0).x0 : Int), .int .u8 ((kS 0).x1 : Int), .int .u8 ((kS 0).x2 : Int), .int .u8 ((kS 0).x3 : Int), .int .u8 ((kS 0).x4 : Int), .int .u8 ((kS 0).x5 : Int), .int .u8 ((kS 0).x6 : Int), .int .u8 ((kS 0).x7 : Int), .int .u8 ((kS 1).x0 : Int), .int .u8 ((kS 1).x1 : Int), .int .u8 ((kS 1).x2 : Int), .int .u8 ((kS 1).x3 : Int), .int .u8 ((kS 1).x4 : Int), .int .u8 ((kS 1).x5 : Int), .int .u8 ((kS 1).x6 : Int), .int .u8 ((kS 1).x7 : Int)]) (by kernel_rfl) (exec_load (by rfl) (by rfl) h10) ?_
          simp only [Act.put, List.setIfInBounds_toArray, List.set_cons_zero, List.set_cons_succ]
          refine wpList_val Vx (by kernel_rfl) (exec_load (by rfl) (by rfl) hlx) ?_
          simp only [Act.put, List.setIfInBounds_toArray, List.set_cons_zero, List.set_cons_succ]
          refine wpList_val Vy (by kernel_rfl) (exec_load (by rfl) (by rfl) hly) ?_
          simp only [Act.put, List.setIfInBounds_toArray, List.set_cons_zero, List.set_cons_succ]
          refine wpList_val _ (by kernel_rfl) (exec_load (by rfl) (by rfl) h11) ?_
          simp only [Act.put, List.setIfInBounds_toArray, List.set_cons_zero, List.set_cons_succ]
          clear h10 h11 hlx hly
          go_wp2_with fail
          refine HNW.out.mono ?_
          rintro e p1 ⟨rfl, hb⟩
          have Hp1 := Lib.hid (HPz.out.low.trans (hb.mono HPz.out.low.size))
          clear hb HNW
          obtain ⟨nv, hnv⟩ : ∃ z, z = newI X Y (if false then 0 else 16) := ⟨_, rfl⟩
          rw [← hnv]
          have Hnv := Lib.hid hnv
          clear hnv
          obtain ⟨z0, z1, z2, z3, z4, z5, z6, z7, z8, z9, z10, z11⟩ := PBox.all (HE0.out p1 Hp1.out)
          have hl1 := block_lt (HE0.out p1 Hp1.out)
          go_wp2_with fail
          refine (HCX.out p1 Hp1.out).mono ?_
          rintro e p2 ⟨rfl, hb⟩
          have Hp2 := Lib.hid (Hp1.out.trans (hb.mono Hp1.out.size))
          clear hb z0 z1 z2 z3 z4 z5 z6 z7 z8 z9 z10 z11 hl1
          by_cases hcx : X.check = 0
          · have e1 : (X.check != 0) = false := by simpa using hcx
            have Hcx := Lib.hid hcx
            clear hcx
            obtain ⟨y0, y1, y2, y3, y4, y5, y6, y7, y8, y9, y10, y11⟩ := PBox.all (HE1.out p2 Hp2.out)
            have hl1 := block_lt (HE1.out p2 Hp2.out)
            go_wp2_with fail
            refine (HCY.out p2 Hp2.out).mono ?_
            rintro e p3 ⟨rfl, hb⟩
            have Hp3 := Lib.hid (Hp2.out.trans (hb.mono Hp2.out.size))
            clear hb y0 y1 y2 y3 y4 y5 y6 y7 y8 y9 y10 y11 hl1
            by_cases hcy : Y.check = 0
            · have e2 : (Y.check != 0) = false := by simpa using hcy
              have Hcy := Lib.hid hcy
              clear hcy
              have hneq := neq_digR
              obtain ⟨y0, y1, y2, y3, y4, y5, y6, y7, y8, y9, y10, y11⟩ := PBox.all (HE1.out p3 Hp3.out)
              obtain ⟨z0, z1, z2, z3, z4, z5, z6, z7, z8, z9, z10, z11⟩ := PBox.all (HE0.out p3 Hp3.out)
              have hl1 := block_lt (HE1.out p3 Hp3.out); have hl2 := block_lt (HE0.out p3 Hp3.out)
              cases hnm : sameP X.nm Y.nm with
              | false =>
                have e3 : (!eqI [(X.nm.x0 : Int), (X.nm.x1 : Int), (X.nm.x2 : Int), (X.nm.x3 : Int), (X.nm.x4 : Int), (X.nm.x5 : Int), (X.nm.x6 : Int), (X.nm.x7 : Int)] [(Y.nm.x0 : Int), (Y.nm.x1 : Int), (Y.nm.x2 : Int), (Y.nm.x3 : Int), (Y.nm.x4 : Int), (Y.nm.x5 : Int), (Y.nm.x6 : Int), (Y.nm.x7 : Int)]) = true := by show (!sameP X.nm Y.nm) = true; rw [hnm]; rfl
                have Hnm := Lib.hid hnm
                clear hnm
                have eN : (nv == (6 : Int)) = true := by rw [Hnv.out, show newI X Y _ = 6 from (by unfold newI; simp [Hcx.out, Hcy.out, Hnm.out])]; rfl
                go_wp2_with fail
                refine (HTO.out p3).mono ?_
                rintro e wl ⟨rfl, hb⟩
                have Hwl := Lib.hid (Hp3.out.trans (hb.mono Hp3.out.size))
                clear hb
                go_wp2
                go_ret
                exact ⟨rfl, HXw.out.trans (Hwl.out.mono HXw.out.size)⟩
              | true =>
                have e3 : (!eqI [(X.nm.x0 : Int), (X.nm.x1 : Int), (X.nm.x2 : Int), (X.nm.x3 : Int), (X.nm.x4 : Int), (X.nm.x5 : Int), (X.nm.x6 : Int), (X.nm.x7 : Int)] [(Y.nm.x0 : Int), (Y.nm.x1 : Int), (Y.nm.x2 : Int), (Y.nm.x3 : Int), (Y.nm.x4 : Int), (Y.nm.x5 : Int), (Y.nm.x6 : Int), (Y.nm.x7 : Int)]) = false := by show (!sameP X.nm Y.nm) = false; rw [hnm]; rfl
                have Hnm := Lib.hid hnm
                clear hnm
                go_upto_region 30 with fail
                clear y0 y1 y2 y3 y4 y5 y6 y7 y8 y9 y10 y11 z0 z1 z2 z3 z4 z5 z6 z7 z8 z9 z10 z11 hneq e3 hl1 hl2
                have hl0 := HL0.out; have hly1 := HL1.out
                have Hp4 := Lib.hid (show Below x.heap.size x p3.drew from Hp3.out.drew)
                have hS1 := Hp4.out
                refine wp_region_held_drew (S := fun w' => Below x.heap.size x w') (by kernel_rfl) hS1 (fun hHeld => ?_)
                rw [show Array.replicate _ false = (#[false, false, false, false, false, false] : Array Bool) from rfl]
                generalize p3.drew = p4 at *
                refine takeH 0 (some 128) (v := .agg #[.int .u8 (X.nm.x0 : Int), .int .u8 (X.nm.x1 : Int), .int .u8 (X.nm.x2 : Int), .int .u8 (X.nm.x3 : Int), .int .u8 (X.nm.x4 : Int), .int .u8 (X.nm.x5 : Int), .int .u8 (X.nm.x6 : Int), .int .u8 (X.nm.x7 : Int), .int .i64 X.no, .int .i64 X.h0, .int .i64 X.h1, .slice A n c]) rfl (by kernel_rfl) (by kernel_rfl) (by kernel_rfl) (by kernel_rfl) (fun _ _ _ h => h) (Or.inl ⟨by kernel_rfl, ?hy⟩) (by assumption) ?_
                case hy =>
                  intro w' hSw
                  simp [execOp, Act.eval, hl0 w' hSw, Result.andThen]
                simp only [Act.put, List.setIfInBounds_toArray, List.set_cons_zero, List.set_cons_succ]
                refine takeH 2 (some 130) (v := .agg #[.int .u8 (Y.nm.x0 : Int), .int .u8 (Y.nm.x1 : Int), .int .u8 (Y.nm.x2 : Int), .int .u8 (Y.nm.x3 : Int), .int .u8 (Y.nm.x4 : Int), .int .u8 (Y.nm.x5 : Int), .int .u8 (Y.nm.x6 : Int), .int .u8 (Y.nm.x7 : Int), .int .i64 Y.no, .int .i64 Y.h0, .int .i64 Y.h1, .slice A' n' c']) rfl (by kernel_rfl) (by kernel_rfl) (by kernel_rfl) (by kernel_rfl) (fun _ _ _ h => h) (Or.inl ⟨by kernel_rfl, ?hy⟩) (by assumption) ?_
                case hy =>
                  intro w' hSw
                  simp [execOp, Act.eval, hly1 w' hSw, Result.andThen]
                simp only [Act.put, List.setIfInBounds_toArray, List.set_cons_zero, List.set_cons_succ]
                clear hS1 hl0 hly1
                refine wpAnyH_ready (rs := [1]) (by kernel_rfl) (by simp) ?_
                refine AllReadyH.cons rfl (fun K hK => ?_) AllReadyH.nil
                rw [if_pos (by kernel_rfl)]
                go_simp
                refine (HTX.out p4 Hp4.out).mono ?_
                rintro e p5 ⟨rfl, hb⟩
                have Hp5 := Lib.hid (Hp4.out.trans (hb.mono Hp4.out.size))
                clear hb
                refine hK.out _ _ Hp5.out (fun _ => ?_)
                clear hK K
                simp only [List.setIfInBounds_toArray, List.set_cons_zero, List.set_cons_succ]
                refine wpAnyH_ready (rs := [3]) (by kernel_rfl) (by simp) ?_
                refine AllReadyH.cons rfl (fun K hK => ?_) AllReadyH.nil
                rw [if_pos (by kernel_rfl)]
                go_simp
                refine (HTY.out p5 Hp5.out).mono ?_
                rintro e p6 ⟨rfl, hb⟩
                have Hp6 := Lib.hid (Hp5.out.trans (hb.mono Hp5.out.size))
                clear hb
                refine hK.out _ _ Hp6.out (fun _ => ?_)
                clear hK K
                simp only [List.setIfInBounds_toArray, List.set_cons_zero, List.set_cons_succ]
                have hS1 := Hp6.out
                refine takeH 4 (some 132) (v := ?_) rfl (by kernel_rfl) (by kernel_rfl) (by kernel_rfl) (by kernel_rfl) (fun _ _ _ h => h) (Or.inl ⟨by kernel_rfl, ?hy⟩) (by assumption) ?_
                case hy =>
                  intro w' hSw
                  clear hSw
                  first
                    | (go_simp; done)
                    | (go_simp; with_reducible rfl)
                simp only [Act.put, List.setIfInBounds_toArray, List.set_cons_zero, List.set_cons_succ]
                refine takeH 5 (some 127) (v := ?_) rfl (by kernel_rfl) (by kernel_rfl) (by kernel_rfl) (by kernel_rfl) (fun _ _ _ h => h) (Or.inl ⟨by kernel_rfl, ?hy⟩) (by assumption) ?_
                case hy =>
                  intro w' hSw
                  clear hSw
                  first
                    | (go_simp; done)
                    | (go_simp; with_reducible rfl)
                simp only [Act.put, List.setIfInBounds_toArray, List.set_cons_zero, List.set_cons_succ]
                refine wpAnyH_done (by kernel_rfl) ?_ _
                clear hS1
                have htx : X.total = X.sum := by unfold Pu.total; rw [if_pos Hcx.out]
                have hty : Y.total = Y.sum := by unfold Pu.total; rw [if_pos Hcy.out]
                have Htt := Lib.hid (And.intro htx hty)
                clear htx hty
                by_cases hsum : X.total = Y.total
                · have e4 : (X.total != Y.total) = false := by simpa using hsum
                  have Hsum : Hid (X.sum = Y.sum) := Lib.hid (by rw [← Htt.out.1, ← Htt.out.2]; exact hsum)
                  clear hsum
                  have hl1 := block_lt (HE1.out p6 Hp6.out); have hl2 := block_lt (HE0.out p6 Hp6.out)
                  obtain ⟨y0, y1, y2, y3, y4, y5, y6, y7, y8, y9, y10, y11⟩ := PBox.all (HE1.out p6 Hp6.out)
                  obtain ⟨z0, z1, z2, z3, z4, z5, z6, z7, z8, z9, z10, z11⟩ := PBox.all (HE0.out p6 Hp6.out)
                  by_cases hno : Y.no ≤ X.no
                  · have e5 : decide (Y.no ≤ X.no) = true := decide_eq_true hno
                    have Hno := Lib.hid hno
                    have eN : (nv == (18 : Int)) = true := by rw [Hnv.out, show newI X Y _ = 18 from (by unfold newI; simp [Hcx.out, Hcy.out, Hnm.out, Hsum.out, Hno.out])]; rfl
                    go_wp2_with fail
                    refine (HTO.out p6).mono ?_
                    rintro e wl ⟨rfl, hb⟩
                    have Hwl := Lib.hid (Hp6.out.trans (hb.mono Hp6.out.size))
                    clear hb
                    go_wp2
                    go_ret
                    exact ⟨rfl, HXw.out.trans (Hwl.out.mono HXw.out.size)⟩
                  · have e5 : decide (Y.no ≤ X.no) = false := decide_eq_false hno
                    have Hno := Lib.hid hno
                    clear hno
                    have eN : (nv == (16 : Int)) = true := by rw [Hnv.out, show newI X Y _ = 16 from (by unfold newI; simp [Hcx.out, Hcy.out, Hnm.out, Hsum.out, Hno.out])]; rfl
                    go_wp2_with fail
                    refine (HTO.out p6).mono ?_
                    rintro e wl ⟨rfl, hb⟩
                    have Hwl := Lib.hid (Hp6.out.trans (hb.mono Hp6.out.size))
                    clear hb
                    go_wp2
                    go_ret
                    exact ⟨rfl, HXw.out.trans (Hwl.out.mono HXw.out.size)⟩
                · have e4 : (X.total != Y.total) = true := by simpa using hsum
                  have Hsum : Hid (¬ X.sum = Y.sum) := Lib.hid (by rw [← Htt.out.1, ← Htt.out.2]; exact hsum)
                  clear hsum
                  have eN : (nv == (22 : Int)) = true := by rw [Hnv.out, show newI X Y _ = 22 from (by unfold newI; simp [Hcx.out, Hcy.out, Hnm.out, Hsum.out])]; rfl
                  go_wp2_with fail
                  refine (HTO.out p6).mono ?_
                  rintro e wl ⟨rfl, hb⟩
                  have Hwl := Lib.hid (Hp6.out.trans (hb.mono Hp6.out.size))
                  clear hb
                  go_wp2
                  go_ret
                  exact ⟨rfl, HXw.out.trans (Hwl.out.mono HXw.out.size)⟩
            · have e2 : (Y.check != 0) = true := by simpa using hcy
              have Hcy := Lib.hid hcy
              clear hcy
              have eN : (nv == (3 : Int)) = true := by rw [Hnv.out, show newI X Y _ = 3 from (by unfold newI; simp [Hcx.out, Hcy.out])]; rfl
              go_wp2_with fail
              refine (HTO.out p3).mono ?_
              rintro e wl ⟨rfl, hb⟩
              have Hwl := Lib.hid (Hp3.out.trans (hb.mono Hp3.out.size))
              clear hb
              go_wp2
              go_ret
              exact ⟨rfl, HXw.out.trans (Hwl.out.mono HXw.out.size)⟩
          · have e1 : (X.check != 0) = true := by simpa using hcx
            have Hcx := Lib.hid hcx
            clear hcx
            have eN : (nv == (3 : Int)) = true := by rw [Hnv.out, show newI X Y _ = 3 from (by unfold newI; simp [Hcx.out])]; rfl
            go_wp2_with fail
            refine (HTO.out p2).mono ?_
            rintro e wl ⟨rfl, hb⟩
            have Hwl := Lib.hid (Hp2.out.trans (hb.mono Hp2.out.size))
            clear hb
            go_wp2
            go_ret
            exact ⟨rfl, HXw.out.trans (Hwl.out.mono HXw.out.size)⟩
        | false =>
          go_upto_region 24 with fail
          clear ys hl5'
          have HPz := HPk
          have Halz := Hal
          obtain ⟨sgZ, hsgZ⟩ : ∃ s, s = sgF := ⟨_, rfl⟩
          rw [← hsgZ] at Halz
          rw [← hsgZ]
          clear hsgZ
          have h10 := keys_load HPz.out.keys
          have h11 := sigs_load HPz.out.sigs
          have hlx := HLX.out wr HPz.out.low
          have hly := HLY.out wr HPz.out.low
          have HNW := Lib.hid (HNWX.out wr _ _ sgZ HPz.out Halz.out)
          refine wp_region_list ?_
          refine wpList_val (.pointer (some ⟨x.heap.size + 1, 0, none⟩)) (by kernel_rfl) (exec_move (by rfl) (by rfl)) ?_
          simp only [Act.put, List.setIfInBounds_toArray, List.set_cons_zero, List.set_cons_succ]
          refine wpList_val (.iface 37 (.pointer (some ⟨x.heap.size + 1, 0, none⟩))) (by kernel_rfl) (by kernel_rfl) ?_
          simp only [Act.put, List.setIfInBounds_toArray, List.set_cons_zero, List.set_cons_succ]
          refine wpList_val (.agg #[.int .u8 ((kS 0).x0 : Int), .int .u8 ((kS 0).x1 : Int), .int .u8 ((kS 0).x2 : Int), .int .u8 ((kS 0).x3 : Int), .int .u8 ((kS 0).x4 : Int), .int .u8 ((kS 0).x5 : Int), .int .u8 ((kS 0).x6 : Int), .int .u8 ((kS 0).x7 : Int), .int .u8 ((kS 1).x0 : Int), .int .u8 ((kS 1).x1 : Int), .int .u8 ((kS 1).x2 : Int), .int .u8 ((kS 1).x3 : Int), .int .u8 ((kS 1).x4 : Int), .int .u8 ((kS 1).x5 : Int), .int .u8 ((kS 1).x6 : Int), .int .u8 ((kS 1).x7 : Int)]) (by kernel_rfl) (exec_load (by rfl) (by rfl) h10) ?_
          simp only [Act.put, List.setIfInBounds_toArray, List.set_cons_zero, List.set_cons_succ]
          refine wpList_val Vx (by kernel_rfl) (exec_load (by rfl) (by rfl) hlx) ?_
          simp only [Act.put, List.setIfInBounds_toArray, List.set_cons_zero, List.set_cons_succ]
          refine wpList_val Vy (by kernel_rfl) (exec_load (by rfl) (by rfl) hly) ?_
          simp only [Act.put, List.setIfInBounds_toArray, List.set_cons_zero, List.set_cons_succ]
          refine wpList_val _ (by kernel_rfl) (exec_load (by rfl) (by rfl) h11) ?_
          simp only [Act.put, List.setIfInBounds_toArray, List.set_cons_zero, List.set_cons_succ]
          clear h10 h11 hlx hly
          go_wp2_with fail
          refine HNW.out.mono ?_
          rintro e p1 ⟨rfl, hb⟩
          have Hp1 := Lib.hid (HPz.out.low.trans (hb.mono HPz.out.low.size))
          clear hb HNW
          obtain ⟨nv, hnv⟩ : ∃ z, z = newI X Y (if sgZ then 0 else 16) := ⟨_, rfl⟩
          rw [← hnv]
          have Hnv := Lib.hid hnv
          clear hnv
          obtain ⟨z0, z1, z2, z3, z4, z5, z6, z7, z8, z9, z10, z11⟩ := PBox.all (HE0.out p1 Hp1.out)
          have hl1 := block_lt (HE0.out p1 Hp1.out)
          go_wp2_with fail
          refine (HCX.out p1 Hp1.out).mono ?_
          rintro e p2 ⟨rfl, hb⟩
          have Hp2 := Lib.hid (Hp1.out.trans (hb.mono Hp1.out.size))
          clear hb z0 z1 z2 z3 z4 z5 z6 z7 z8 z9 z10 z11 hl1
          by_cases hcx : X.check = 0
          · have e1 : (X.check != 0) = false := by simpa using hcx
            have Hcx := Lib.hid hcx
            clear hcx
            obtain ⟨y0, y1, y2, y3, y4, y5, y6, y7, y8, y9, y10, y11⟩ := PBox.all (HE1.out p2 Hp2.out)
            have hl1 := block_lt (HE1.out p2 Hp2.out)
            go_wp2_with fail
            refine (HCY.out p2 Hp2.out).mono ?_
            rintro e p3 ⟨rfl, hb⟩
            have Hp3 := Lib.hid (Hp2.out.trans (hb.mono Hp2.out.size))
            clear hb y0 y1 y2 y3 y4 y5 y6 y7 y8 y9 y10 y11 hl1
            by_cases hcy : Y.check = 0
            · have e2 : (Y.check != 0) = false := by simpa using hcy
              have Hcy := Lib.hid hcy
              clear hcy
              have hneq := neq_digR
              obtain ⟨y0, y1, y2, y3, y4, y5, y6, y7, y8, y9, y10, y11⟩ := PBox.all (HE1.out p3 Hp3.out)
              obtain ⟨z0, z1, z2, z3, z4, z5, z6, z7, z8, z9, z10, z11⟩ := PBox.all (HE0.out p3 Hp3.out)
              have hl1 := block_lt (HE1.out p3 Hp3.out); have hl2 := block_lt (HE0.out p3 Hp3.out)
              cases hnm : sameP X.nm Y.nm with
              | false =>
                have e3 : (!eqI [(X.nm.x0 : Int), (X.nm.x1 : Int), (X.nm.x2 : Int), (X.nm.x3 : Int), (X.nm.x4 : Int), (X.nm.x5 : Int), (X.nm.x6 : Int), (X.nm.x7 : Int)] [(Y.nm.x0 : Int), (Y.nm.x1 : Int), (Y.nm.x2 : Int), (Y.nm.x3 : Int), (Y.nm.x4 : Int), (Y.nm.x5 : Int), (Y.nm.x6 : Int), (Y.nm.x7 : Int)]) = true := by show (!sameP X.nm Y.nm) = true; rw [hnm]; rfl
                have Hnm := Lib.hid hnm
                clear hnm
                have eN : (nv == (6 : Int)) = true := by rw [Hnv.out, show newI X Y _ = 6 from (by unfold newI; simp [Hcx.out, Hcy.out, Hnm.out])]; rfl
                go_wp2_with fail
                refine (HTO.out p3).mono ?_
                rintro e wl ⟨rfl, hb⟩
                have Hwl := Lib.hid (Hp3.out.trans (hb.mono Hp3.out.size))
                clear hb
                go_wp2
                go_ret
                exact ⟨rfl, HXw.out.trans (Hwl.out.mono HXw.out.size)⟩
              | true =>
                have e3 : (!eqI [(X.nm.x0 : Int), (X.nm.x1 : Int), (X.nm.x2 : Int), (X.nm.x3 : Int), (X.nm.x4 : Int), (X.nm.x5 : Int), (X.nm.x6 : Int), (X.nm.x7 : Int)] [(Y.nm.x0 : Int), (Y.nm.x1 : Int), (Y.nm.x2 : Int), (Y.nm.x3 : Int), (Y.nm.x4 : Int), (Y.nm.x5 : Int), (Y.nm.x6 : Int), (Y.nm.x7 : Int)]) = false := by show (!sameP X.nm Y.nm) = false; rw [hnm]; rfl
                have Hnm := Lib.hid hnm
                clear hnm
                go_upto_region 30 with fail
                clear y0 y1 y2 y3 y4 y5 y6 y7 y8 y9 y10 y11 z0 z1 z2 z3 z4 z5 z6 z7 z8 z9 z10 z11 hneq e3 hl1 hl2
                have hl0 := HL0.out; have hly1 := HL1.out
                have Hp4 := Lib.hid (show Below x.heap.size x p3.drew from Hp3.out.drew)
                have hS1 := Hp4.out
                refine wp_region_held_drew (S := fun w' => Below x.heap.size x w') (by kernel_rfl) hS1 (fun hHeld => ?_)
                rw [show Array.replicate _ false = (#[false, false, false, false, false, false] : Array Bool) from rfl]
                generalize p3.drew = p4 at *
                refine takeH 0 (some 128) (v := .agg #[.int .u8 (X.nm.x0 : Int), .int .u8 (X.nm.x1 : Int), .int .u8 (X.nm.x2 : Int), .int .u8 (X.nm.x3 : Int), .int .u8 (X.nm.x4 : Int), .int .u8 (X.nm.x5 : Int), .int .u8 (X.nm.x6 : Int), .int .u8 (X.nm.x7 : Int), .int .i64 X.no, .int .i64 X.h0, .int .i64 X.h1, .slice A n c]) rfl (by kernel_rfl) (by kernel_rfl) (by kernel_rfl) (by kernel_rfl) (fun _ _ _ h => h) (Or.inl ⟨by kernel_rfl, ?hy⟩) (by assumption) ?_
                case hy =>
                  intro w' hSw
                  simp [execOp, Act.eval, hl0 w' hSw, Result.andThen]
                simp only [Act.put, List.setIfInBounds_toArray, List.set_cons_zero, List.set_cons_succ]
                refine takeH 2 (some 130) (v := .agg #[.int .u8 (Y.nm.x0 : Int), .int .u8 (Y.nm.x1 : Int), .int .u8 (Y.nm.x2 : Int), .int .u8 (Y.nm.x3 : Int), .int .u8 (Y.nm.x4 : Int), .int .u8 (Y.nm.x5 : Int), .int .u8 (Y.nm.x6 : Int), .int .u8 (Y.nm.x7 : Int), .int .i64 Y.no, .int .i64 Y.h0, .int .i64 Y.h1, .slice A' n' c']) rfl (by kernel_rfl) (by kernel_rfl) (by kernel_rfl) (by kernel_rfl) (fun _ _ _ h => h) (Or.inl ⟨by kernel_rfl, ?hy⟩) (by assumption) ?_
                case hy =>
                  intro w' hSw
                  simp [execOp, Act.eval, hly1 w' hSw, Result.andThen]
                simp only [Act.put, List.setIfInBounds_toArray, List.set_cons_zero, List.set_cons_succ]
                clear hS1 hl0 hly1
                refine wpAnyH_ready (rs := [1]) (by kernel_rfl) (by simp) ?_
                refine AllReadyH.cons rfl (fun K hK => ?_) AllReadyH.nil
                rw [if_pos (by kernel_rfl)]
                go_simp
                refine (HTX.out p4 Hp4.out).mono ?_
                rintro e p5 ⟨rfl, hb⟩
                have Hp5 := Lib.hid (Hp4.out.trans (hb.mono Hp4.out.size))
                clear hb
                refine hK.out _ _ Hp5.out (fun _ => ?_)
                clear hK K
                simp only [List.setIfInBounds_toArray, List.set_cons_zero, List.set_cons_succ]
                refine wpAnyH_ready (rs := [3]) (by kernel_rfl) (by simp) ?_
                refine AllReadyH.cons rfl (fun K hK => ?_) AllReadyH.nil
                rw [if_pos (by kernel_rfl)]
                go_simp
                refine (HTY.out p5 Hp5.out).mono ?_
                rintro e p6 ⟨rfl, hb⟩
                have Hp6 := Lib.hid (Hp5.out.trans (hb.mono Hp5.out.size))
                clear hb
                refine hK.out _ _ Hp6.out (fun _ => ?_)
                clear hK K
                simp only [List.setIfInBounds_toArray, List.set_cons_zero, List.set_cons_succ]
                have hS1 := Hp6.out
                refine takeH 4 (some 132) (v := ?_) rfl (by kernel_rfl) (by kernel_rfl) (by kernel_rfl) (by kernel_rfl) (fun _ _ _ h => h) (Or.inl ⟨by kernel_rfl, ?hy⟩) (by assumption) ?_
                case hy =>
                  intro w' hSw
                  clear hSw
                  first
                    | (go_simp; done)
                    | (go_simp; with_reducible rfl)
                simp only [Act.put, List.setIfInBounds_toArray, List.set_cons_zero, List.set_cons_succ]
                refine takeH 5 (some 127) (v := ?_) rfl (by kernel_rfl) (by kernel_rfl) (by kernel_rfl) (by kernel_rfl) (fun _ _ _ h => h) (Or.inl ⟨by kernel_rfl, ?hy⟩) (by assumption) ?_
                case hy =>
                  intro w' hSw
                  clear hSw
                  first
                    | (go_simp; done)
                    | (go_simp; with_reducible rfl)
                simp only [Act.put, List.setIfInBounds_toArray, List.set_cons_zero, List.set_cons_succ]
                refine wpAnyH_done (by kernel_rfl) ?_ _
                clear hS1
                have htx : X.total = X.sum := by unfold Pu.total; rw [if_pos Hcx.out]
                have hty : Y.total = Y.sum := by unfold Pu.total; rw [if_pos Hcy.out]
                have Htt := Lib.hid (And.intro htx hty)
                clear htx hty
                by_cases hsum : X.total = Y.total
                · have e4 : (X.total != Y.total) = false := by simpa using hsum
                  have Hsum : Hid (X.sum = Y.sum) := Lib.hid (by rw [← Htt.out.1, ← Htt.out.2]; exact hsum)
                  clear hsum
                  have hl1 := block_lt (HE1.out p6 Hp6.out); have hl2 := block_lt (HE0.out p6 Hp6.out)
                  obtain ⟨y0, y1, y2, y3, y4, y5, y6, y7, y8, y9, y10, y11⟩ := PBox.all (HE1.out p6 Hp6.out)
                  obtain ⟨z0, z1, z2, z3, z4, z5, z6, z7, z8, z9, z10, z11⟩ := PBox.all (HE0.out p6 Hp6.out)
                  by_cases hno : Y.no ≤ X.no
                  · have e5 : decide (Y.no ≤ X.no) = true := decide_eq_true hno
                    have Hno := Lib.hid hno
                    have eN : (nv == (18 : Int)) = true := by rw [Hnv.out, show newI X Y _ = 18 from (by unfold newI; simp [Hcx.out, Hcy.out, Hnm.out, Hsum.out, Hno.out])]; rfl
                    go_wp2_with fail
                    refine (HTO.out p6).mono ?_
                    rintro e wl ⟨rfl, hb⟩
                    have Hwl := Lib.hid (Hp6.out.trans (hb.mono Hp6.out.size))
                    clear hb
                    go_wp2
                    go_ret
                    exact ⟨rfl, HXw.out.trans (Hwl.out.mono HXw.out.size)⟩
                  · have e5 : decide (Y.no ≤ X.no) = false := decide_eq_false hno
                    have Hno := Lib.hid hno
                    clear hno
                    cases sgZ with
                    | true =>
                      have eN : (nv == (0 : Int)) = true := by rw [Hnv.out, show newI X Y _ = 0 from (by unfold newI; simp [Hcx.out, Hcy.out, Hnm.out, Hsum.out, Hno.out])]; rfl
                      go_wp2_with fail
                      refine (HTO.out p6).mono ?_
                      rintro e wl ⟨rfl, hb⟩
                      have Hwl := Lib.hid (Hp6.out.trans (hb.mono Hp6.out.size))
                      clear hb
                      go_wp2
                      go_ret
                      exact ⟨rfl, HXw.out.trans (Hwl.out.mono HXw.out.size)⟩
                    | false =>
                      have eN : (nv == (16 : Int)) = true := by rw [Hnv.out, show newI X Y _ = 16 from (by unfold newI; simp [Hcx.out, Hcy.out, Hnm.out, Hsum.out, Hno.out])]; rfl
                      go_wp2_with fail
                      refine (HTO.out p6).mono ?_
                      rintro e wl ⟨rfl, hb⟩
                      have Hwl := Lib.hid (Hp6.out.trans (hb.mono Hp6.out.size))
                      clear hb
                      go_wp2
                      go_ret
                      exact ⟨rfl, HXw.out.trans (Hwl.out.mono HXw.out.size)⟩
                · have e4 : (X.total != Y.total) = true := by simpa using hsum
                  have Hsum : Hid (¬ X.sum = Y.sum) := Lib.hid (by rw [← Htt.out.1, ← Htt.out.2]; exact hsum)
                  clear hsum
                  have eN : (nv == (22 : Int)) = true := by rw [Hnv.out, show newI X Y _ = 22 from (by unfold newI; simp [Hcx.out, Hcy.out, Hnm.out, Hsum.out])]; rfl
                  go_wp2_with fail
                  refine (HTO.out p6).mono ?_
                  rintro e wl ⟨rfl, hb⟩
                  have Hwl := Lib.hid (Hp6.out.trans (hb.mono Hp6.out.size))
                  clear hb
                  go_wp2
                  go_ret
                  exact ⟨rfl, HXw.out.trans (Hwl.out.mono HXw.out.size)⟩
            · have e2 : (Y.check != 0) = true := by simpa using hcy
              have Hcy := Lib.hid hcy
              clear hcy
              have eN : (nv == (3 : Int)) = true := by rw [Hnv.out, show newI X Y _ = 3 from (by unfold newI; simp [Hcx.out, Hcy.out])]; rfl
              go_wp2_with fail
              refine (HTO.out p3).mono ?_
              rintro e wl ⟨rfl, hb⟩
              have Hwl := Lib.hid (Hp3.out.trans (hb.mono Hp3.out.size))
              clear hb
              go_wp2
              go_ret
              exact ⟨rfl, HXw.out.trans (Hwl.out.mono HXw.out.size)⟩
          · have e1 : (X.check != 0) = true := by simpa using hcx
            have Hcx := Lib.hid hcx
            clear hcx
            have eN : (nv == (3 : Int)) = true := by rw [Hnv.out, show newI X Y _ = 3 from (by unfold newI; simp [Hcx.out])]; rfl
            go_wp2_with fail
            refine (HTO.out p2).mono ?_
            rintro e wl ⟨rfl, hb⟩
            have Hwl := Lib.hid (Hp2.out.trans (hb.mono Hp2.out.size))
            clear hb
            go_wp2
            go_ret
            exact ⟨rfl, HXw.out.trans (Hwl.out.mono HXw.out.size)⟩
end Go.Proofs.Ythjpaclcoipocaa
