/- The walk of the statement TxPays: who gets how much by any body. Condition: what is handed in can be read. -/
import Derived.Test.YtebepgoaofhelaaTxE
import Derived.Deep.RegionHeld3
namespace Go.Proofs.Ytebepgoaofhelaa
open Go.RowKit Go.Lib


theorem set13 {w : World} {b : Nat} {t t' : TxV} (h : Box t w b) : Box t' (((((((((((((w.setCell ⟨b, 0, none⟩ (.int .u8 (t'.d.x0 : Int))).setCell ⟨b, 1, none⟩ (.int .u8 (t'.d.x1 : Int))).setCell ⟨b, 2, none⟩ (.int .u8 (t'.d.x2 : Int))).setCell ⟨b, 3, none⟩ (.int .u8 (t'.d.x3 : Int))).setCell ⟨b, 4, none⟩ (.int .u8 (t'.d.x4 : Int))).setCell ⟨b, 5, none⟩ (.int .u8 (t'.d.x5 : Int))).setCell ⟨b, 6, none⟩ (.int .u8 (t'.d.x6 : Int))).setCell ⟨b, 7, none⟩ (.int .u8 (t'.d.x7 : Int))).setCell ⟨b, 8, none⟩ (.int .i64 t'.no)).setCell ⟨b, 9, none⟩ (.int .i64 t'.fe)).setCell ⟨b, 10, none⟩ (.int .i64 t'.ki)).setCell ⟨b, 11, none⟩ (.slice t'.A t'.n t'.c)).setCell ⟨b, 12, none⟩ (.slice t'.A' t'.n' t'.c')) b ∧ w.grownBy (((((((((((((w.setCell ⟨b, 0, none⟩ (.int .u8 (t'.d.x0 : Int))).setCell ⟨b, 1, none⟩ (.int .u8 (t'.d.x1 : Int))).setCell ⟨b, 2, none⟩ (.int .u8 (t'.d.x2 : Int))).setCell ⟨b, 3, none⟩ (.int .u8 (t'.d.x3 : Int))).setCell ⟨b, 4, none⟩ (.int .u8 (t'.d.x4 : Int))).setCell ⟨b, 5, none⟩ (.int .u8 (t'.d.x5 : Int))).setCell ⟨b, 6, none⟩ (.int .u8 (t'.d.x6 : Int))).setCell ⟨b, 7, none⟩ (.int .u8 (t'.d.x7 : Int))).setCell ⟨b, 8, none⟩ (.int .i64 t'.no)).setCell ⟨b, 9, none⟩ (.int .i64 t'.fe)).setCell ⟨b, 10, none⟩ (.int .i64 t'.ki)).setCell ⟨b, 11, none⟩ (.slice t'.A t'.n t'.c)).setCell ⟨b, 12, none⟩ (.slice t'.A' t'.n' t'.c')) (some b) := by
  refine ⟨?_, grown_trans (grown_trans (grown_trans (grown_trans (grown_trans (grown_trans (grown_trans (grown_trans (grown_trans (grown_trans (grown_trans (grown_trans (grown_set _ _ _) (grown_set _ _ _)) (grown_set _ _ _)) (grown_set _ _ _)) (grown_set _ _ _)) (grown_set _ _ _)) (grown_set _ _ _)) (grown_set _ _ _)) (grown_set _ _ _)) (grown_set _ _ _)) (grown_set _ _ _)) (grown_set _ _ _)) (grown_set _ _ _)⟩
  have := Joins.block_setCell (i := 12) (Joins.block_setCell (i := 11) (Joins.block_setCell (i := 10) (Joins.block_setCell (i := 9) (Joins.block_setCell (i := 8) (Joins.block_setCell (i := 7) (Joins.block_setCell (i := 6) (Joins.block_setCell (i := 5) (Joins.block_setCell (i := 4) (Joins.block_setCell (i := 3) (Joins.block_setCell (i := 2) (Joins.block_setCell (i := 1) (Joins.block_setCell (i := 0) h (.int .u8 (t'.d.x0 : Int))) (.int .u8 (t'.d.x1 : Int))) (.int .u8 (t'.d.x2 : Int))) (.int .u8 (t'.d.x3 : Int))) (.int .u8 (t'.d.x4 : Int))) (.int .u8 (t'.d.x5 : Int))) (.int .u8 (t'.d.x6 : Int))) (.int .u8 (t'.d.x7 : Int))) (.int .i64 t'.no)) (.int .i64 t'.fe)) (.int .i64 t'.ki)) (.slice t'.A t'.n t'.c)) (.slice t'.A' t'.n' t'.c')
  unfold Box
  simpa using this
/-- A digest in a block. -/
def DBox (d : D8) (T : TypeId) (w : World) (b : Nat) : Prop := w.heap[b]? = some (.cells #[.int .u8 (d.x0 : Int), .int .u8 (d.x1 : Int), .int .u8 (d.x2 : Int), .int .u8 (d.x3 : Int), .int .u8 (d.x4 : Int), .int .u8 (d.x5 : Int), .int .u8 (d.x6 : Int), .int .u8 (d.x7 : Int)] T (0, 0))
theorem DBox.all {d : D8} {T : TypeId} {w : World} {b : Nat} (h : DBox d T w b) : w.cell? ⟨b, 0, none⟩ = some (.int .u8 (d.x0 : Int)) ∧ w.cell? ⟨b, 1, none⟩ = some (.int .u8 (d.x1 : Int)) ∧ w.cell? ⟨b, 2, none⟩ = some (.int .u8 (d.x2 : Int)) ∧ w.cell? ⟨b, 3, none⟩ = some (.int .u8 (d.x3 : Int)) ∧ w.cell? ⟨b, 4, none⟩ = some (.int .u8 (d.x4 : Int)) ∧ w.cell? ⟨b, 5, none⟩ = some (.int .u8 (d.x5 : Int)) ∧ w.cell? ⟨b, 6, none⟩ = some (.int .u8 (d.x6 : Int)) ∧ w.cell? ⟨b, 7, none⟩ = some (.int .u8 (d.x7 : Int)) :=
  ⟨block_cell h 0, block_cell h 1, block_cell h 2, block_cell h 3, block_cell h 4, block_cell h 5, block_cell h 6, block_cell h 7⟩
theorem DBox.below {d : D8} {T : TypeId} {w w' : World} {b : Nat} (h : DBox d T w b) (hb : Below w.heap.size w w') : DBox d T w' b := block_below h hb (block_lt h)
theorem DBox.drew {d : D8} {T : TypeId} {w : World} {b : Nat} (h : DBox d T w b) : DBox d T w.drew b := h
theorem DBox.all3 {d d' d'' : D8} {T T' T'' : TypeId} {w : World} {b b' b'' : Nat} (h : DBox d T w b) (h' : DBox d' T' w b') (h'' : DBox d'' T'' w b'') : (w.cell? ⟨b, 0, none⟩ = some (.int .u8 (d.x0 : Int)) ∧ w.cell? ⟨b, 1, none⟩ = some (.int .u8 (d.x1 : Int)) ∧ w.cell? ⟨b, 2, none⟩ = some (.int .u8 (d.x2 : Int)) ∧ w.cell? ⟨b, 3, none⟩ = some (.int .u8 (d.x3 : Int)) ∧ w.cell? ⟨b, 4, none⟩ = some (.int .u8 (d.x4 : Int)) ∧ w.cell? ⟨b, 5, none⟩ = some (.int .u8 (d.x5 : Int)) ∧ w.cell? ⟨b, 6, none⟩ = some (.int .u8 (d.x6 : Int)) ∧ w.cell? ⟨b, 7, none⟩ = some (.int .u8 (d.x7 : Int))) ∧ (w.cell? ⟨b', 0, none⟩ = some (.int .u8 (d'.x0 : Int)) ∧ w.cell? ⟨b', 1, none⟩ = some (.int .u8 (d'.x1 : Int)) ∧ w.cell? ⟨b', 2, none⟩ = some (.int .u8 (d'.x2 : Int)) ∧ w.cell? ⟨b', 3, none⟩ = some (.int .u8 (d'.x3 : Int)) ∧ w.cell? ⟨b', 4, none⟩ = some (.int .u8 (d'.x4 : Int)) ∧ w.cell? ⟨b', 5, none⟩ = some (.int .u8 (d'.x5 : Int)) ∧ w.cell? ⟨b', 6, none⟩ = some (.int .u8 (d'.x6 : Int)) ∧ w.cell? ⟨b', 7, none⟩ = some (.int .u8 (d'.x7 : Int))) ∧ (w.cell? ⟨b'', 0, none⟩ = some (.int .u8 (d''.x0 : Int)) ∧ w.cell? ⟨b'', 1, none⟩ = some (.int .u8 (d''.x1 : Int)) ∧ w.cell? ⟨b'', 2, none⟩ = some (.int .u8 (d''.x2 : Int)) ∧ w.cell? ⟨b'', 3, none⟩ = some (.int .u8 (d''.x3 : Int)) ∧ w.cell? ⟨b'', 4, none⟩ = some (.int .u8 (d''.x4 : Int)) ∧ w.cell? ⟨b'', 5, none⟩ = some (.int .u8 (d''.x5 : Int)) ∧ w.cell? ⟨b'', 6, none⟩ = some (.int .u8 (d''.x6 : Int)) ∧ w.cell? ⟨b'', 7, none⟩ = some (.int .u8 (d''.x7 : Int))) := ⟨h.all, h'.all, h''.all⟩
theorem enc7_small256 : ∀ (f n : Nat), n < 128 ^ (f + 1) → ∀ x ∈ enc7 f n, x < 256 := by
  intro f
  induction f with
  | zero => intro n hn x hx; simp [enc7] at hx; simp at hn; omega
  | succ f ih =>
    intro n hn x hx
    by_cases h : n < 128
    · rw [enc7_small h] at hx; simp at hx; omega
    · rw [enc7_big h] at hx
      simp only [List.mem_cons] at hx
      rcases hx with rfl | hx
      · omega
      · exact ih _ (by rw [Nat.pow_succ] at hn; exact Nat.div_lt_of_lt_mul (by rw [Nat.mul_comm]; exact hn)) x hx
theorem encN_small {n : Nat} (h : n < 18446744073709551616) : ∀ x ∈ encN n, x < 256 := enc7_small256 10 n (Nat.lt_of_lt_of_le h (by decide))
theorem payL_small {d : D8} (h : d.ok) (am : Int) : ∀ x ∈ payL d am, x < 256 := by
  intro x hx
  unfold payL at hx
  rw [List.mem_append] at hx
  rcases hx with hx | hx
  · exact encN_small (D8.num_lt h) x hx
  · exact encN_small (by have := wrapU am; unfold u64N; omega) x hx
theorem eqI_refl (l : List Int) : eqI l l = true := by simp [eqI]
set_option maxRecDepth 100000 in
set_option maxHeartbeats 4000000 in
theorem pays_any (t : TxV) (dst : D8) (am : Int) (w : World) (h : t.In w w.heap.size) (hto : dst.ok) (h1 : -9223372036854775808 ≤ am) (h2 : am ≤ 9223372036854775807) :
    Calls Try.prog 3 #[.agg #[.int .u8 (t.d.x0 : Int), .int .u8 (t.d.x1 : Int), .int .u8 (t.d.x2 : Int), .int .u8 (t.d.x3 : Int), .int .u8 (t.d.x4 : Int), .int .u8 (t.d.x5 : Int), .int .u8 (t.d.x6 : Int), .int .u8 (t.d.x7 : Int), .int .i64 t.no, .int .i64 t.fe, .int .i64 t.ki, .slice t.A t.n t.c, .slice t.A' t.n' t.c'], .agg #[.int .u8 (dst.x0 : Int), .int .u8 (dst.x1 : Int), .int .u8 (dst.x2 : Int), .int .u8 (dst.x3 : Int), .int .u8 (dst.x4 : Int), .int .u8 (dst.x5 : Int), .int .u8 (dst.x6 : Int), .int .u8 (dst.x7 : Int)], .int .i64 am] w fun e w' => e = .returned (.bool true) ∧ Below w.heap.size w w' := by
  have H := Lib.hid (h.keep (below_two w (.cells #[.int .u8 (t.d.x0 : Int), .int .u8 (t.d.x1 : Int), .int .u8 (t.d.x2 : Int), .int .u8 (t.d.x3 : Int), .int .u8 (t.d.x4 : Int), .int .u8 (t.d.x5 : Int), .int .u8 (t.d.x6 : Int), .int .u8 (t.d.x7 : Int), .int .i64 t.no, .int .i64 t.fe, .int .i64 t.ki, .slice t.A t.n t.c, .slice t.A' t.n' t.c'] 26) (.cells #[.int .u8 (dst.x0 : Int), .int .u8 (dst.x1 : Int), .int .u8 (dst.x2 : Int), .int .u8 (dst.x3 : Int), .int .u8 (dst.x4 : Int), .int .u8 (dst.x5 : Int), .int .u8 (dst.x6 : Int), .int .u8 (dst.x7 : Int)] 22)) (Nat.le_refl _))
  have HB := Lib.hid (show Box t ((w.alloc (.cells #[.int .u8 (t.d.x0 : Int), .int .u8 (t.d.x1 : Int), .int .u8 (t.d.x2 : Int), .int .u8 (t.d.x3 : Int), .int .u8 (t.d.x4 : Int), .int .u8 (t.d.x5 : Int), .int .u8 (t.d.x6 : Int), .int .u8 (t.d.x7 : Int), .int .i64 t.no, .int .i64 t.fe, .int .i64 t.ki, .slice t.A t.n t.c, .slice t.A' t.n' t.c'] 26)).alloc (.cells #[.int .u8 (dst.x0 : Int), .int .u8 (dst.x1 : Int), .int .u8 (dst.x2 : Int), .int .u8 (dst.x3 : Int), .int .u8 (dst.x4 : Int), .int .u8 (dst.x5 : Int), .int .u8 (dst.x6 : Int), .int .u8 (dst.x7 : Int)] 22)) w.heap.size from block_alloc (heap_alloc_new w _) _)
  have HD : Hid (DBox dst 22 ((w.alloc (.cells #[.int .u8 (t.d.x0 : Int), .int .u8 (t.d.x1 : Int), .int .u8 (t.d.x2 : Int), .int .u8 (t.d.x3 : Int), .int .u8 (t.d.x4 : Int), .int .u8 (t.d.x5 : Int), .int .u8 (t.d.x6 : Int), .int .u8 (t.d.x7 : Int), .int .i64 t.no, .int .i64 t.fe, .int .i64 t.ki, .slice t.A t.n t.c, .slice t.A' t.n' t.c'] 26)).alloc (.cells #[.int .u8 (dst.x0 : Int), .int .u8 (dst.x1 : Int), .int .u8 (dst.x2 : Int), .int .u8 (dst.x3 : Int), .int .u8 (dst.x4 : Int), .int .u8 (dst.x5 : Int), .int .u8 (dst.x6 : Int), .int .u8 (dst.x7 : Int)] 22)) (w.heap.size + 1)) := by
    have := heap_alloc_new (w.alloc (.cells #[.int .u8 (t.d.x0 : Int), .int .u8 (t.d.x1 : Int), .int .u8 (t.d.x2 : Int), .int .u8 (t.d.x3 : Int), .int .u8 (t.d.x4 : Int), .int .u8 (t.d.x5 : Int), .int .u8 (t.d.x6 : Int), .int .u8 (t.d.x7 : Int), .int .i64 t.no, .int .i64 t.fe, .int .i64 t.ki, .slice t.A t.n t.c, .slice t.A' t.n' t.c'] 26)) (.cells #[.int .u8 (dst.x0 : Int), .int .u8 (dst.x1 : Int), .int .u8 (dst.x2 : Int), .int .u8 (dst.x3 : Int), .int .u8 (dst.x4 : Int), .int .u8 (dst.x5 : Int), .int .u8 (dst.x6 : Int), .int .u8 (dst.x7 : Int)] 22)
    rw [World.size_alloc] at this; exact this
  have Hto := Lib.hid hto
  have Hpp := Lib.hid (paid_pay hto h1 h2)
  clear h hto
  have hneq := neq_dig
  have heq := eql_dig
  go_enter Try.func3, Try.ntmps3
  go_wp2_with fail
  refine (cut_any t _ w.heap.size (by simp; omega) H.out).mono ?_
  rintro e w1 ⟨t', rfl, hcut, hat, hb1⟩
  have HB1 := Lib.hid (HB.out.below hb1)
  have HD1 := Lib.hid (HD.out.below hb1)
  have Hat1 := Lib.hid hat
  have Hw1 := Lib.hid ((below_two w _ _).trans (hb1.mono (by simp; omega)))
  clear hb1 hat hcut
  obtain ⟨y0, y1, y2, y3, y4, y5, y6, y7, y8, y9, y10, y11, y12⟩ := HB1.out.all
  have yf := block_free HB1.out
  obtain ⟨s1, s2⟩ := set13 (t' := t') HB1.out
  have S1 := Lib.hid s1; have S2 := Lib.hid s2
  clear s1 s2
  go_wp2_with fail
  generalize (((((((((((((w1.setCell ⟨w.heap.size, 0, none⟩ (.int .u8 (t'.d.x0 : Int))).setCell ⟨w.heap.size, 1, none⟩ (.int .u8 (t'.d.x1 : Int))).setCell ⟨w.heap.size, 2, none⟩ (.int .u8 (t'.d.x2 : Int))).setCell ⟨w.heap.size, 3, none⟩ (.int .u8 (t'.d.x3 : Int))).setCell ⟨w.heap.size, 4, none⟩ (.int .u8 (t'.d.x4 : Int))).setCell ⟨w.heap.size, 5, none⟩ (.int .u8 (t'.d.x5 : Int))).setCell ⟨w.heap.size, 6, none⟩ (.int .u8 (t'.d.x6 : Int))).setCell ⟨w.heap.size, 7, none⟩ (.int .u8 (t'.d.x7 : Int))).setCell ⟨w.heap.size, 8, none⟩ (.int .i64 t'.no)).setCell ⟨w.heap.size, 9, none⟩ (.int .i64 t'.fe)).setCell ⟨w.heap.size, 10, none⟩ (.int .i64 t'.ki)).setCell ⟨w.heap.size, 11, none⟩ (.slice t'.A t'.n t'.c)).setCell ⟨w.heap.size, 12, none⟩ (.slice t'.A' t'.n' t'.c')) = w2 at *
  have Hw2 := Lib.hid (below_gr Hw1.out S2.out (Nat.le_refl _))
  have hlt1 := block_lt HD1.out
  have HD2 := Lib.hid (show DBox dst 22 w2 (w.heap.size + 1) from (S2.out.block _ hlt1 (by simp)).trans HD1.out)
  have HatB := Lib.hid (Hat1.out.grown S2.out Hw1.out.size (Nat.le_refl _))
  have Hat2 := Lib.hid (HatB.out.at Hw2.out.size)
  clear y0 y1 y2 y3 y4 y5 y6 y7 y8 y9 y10 y11 y12 yf
  refine (paid_any t' w2 Hat2.out).mono ?_
  rintro e w3 ⟨rfl, hb3⟩
  have HB3 := Lib.hid (S1.out.below hb3)
  have HD3 := Lib.hid (HD2.out.below hb3)
  have Hw3 := Lib.hid (Hw2.out.trans (hb3.mono Hw2.out.size))
  have Hat3 := Lib.hid (Hat2.out.up hb3)
  clear hb3
  have HB3a := Lib.hid (show Box t' (w3.alloc (.cells #[.int .u8 ((paidT t'.ki t'.bo).1.x0 : Int), .int .u8 ((paidT t'.ki t'.bo).1.x1 : Int), .int .u8 ((paidT t'.ki t'.bo).1.x2 : Int), .int .u8 ((paidT t'.ki t'.bo).1.x3 : Int), .int .u8 ((paidT t'.ki t'.bo).1.x4 : Int), .int .u8 ((paidT t'.ki t'.bo).1.x5 : Int), .int .u8 ((paidT t'.ki t'.bo).1.x6 : Int), .int .u8 ((paidT t'.ki t'.bo).1.x7 : Int)] 23)) w.heap.size from block_alloc HB3.out _)
  have HD3a := Lib.hid (show DBox dst 22 (w3.alloc (.cells #[.int .u8 ((paidT t'.ki t'.bo).1.x0 : Int), .int .u8 ((paidT t'.ki t'.bo).1.x1 : Int), .int .u8 ((paidT t'.ki t'.bo).1.x2 : Int), .int .u8 ((paidT t'.ki t'.bo).1.x3 : Int), .int .u8 ((paidT t'.ki t'.bo).1.x4 : Int), .int .u8 ((paidT t'.ki t'.bo).1.x5 : Int), .int .u8 ((paidT t'.ki t'.bo).1.x6 : Int), .int .u8 ((paidT t'.ki t'.bo).1.x7 : Int)] 23)) (w.heap.size + 1) from block_alloc HD3.out _)
  have HP3a := Lib.hid (show DBox (paidT t'.ki t'.bo).1 23 (w3.alloc (.cells #[.int .u8 ((paidT t'.ki t'.bo).1.x0 : Int), .int .u8 ((paidT t'.ki t'.bo).1.x1 : Int), .int .u8 ((paidT t'.ki t'.bo).1.x2 : Int), .int .u8 ((paidT t'.ki t'.bo).1.x3 : Int), .int .u8 ((paidT t'.ki t'.bo).1.x4 : Int), .int .u8 ((paidT t'.ki t'.bo).1.x5 : Int), .int .u8 ((paidT t'.ki t'.bo).1.x6 : Int), .int .u8 ((paidT t'.ki t'.bo).1.x7 : Int)] 23)) w3.heap.size from heap_alloc_new w3 _)
  have Hw3a := Lib.hid (Hw3.out.alloc Hw3.out.size (.cells #[.int .u8 ((paidT t'.ki t'.bo).1.x0 : Int), .int .u8 ((paidT t'.ki t'.bo).1.x1 : Int), .int .u8 ((paidT t'.ki t'.bo).1.x2 : Int), .int .u8 ((paidT t'.ki t'.bo).1.x3 : Int), .int .u8 ((paidT t'.ki t'.bo).1.x4 : Int), .int .u8 ((paidT t'.ki t'.bo).1.x5 : Int), .int .u8 ((paidT t'.ki t'.bo).1.x6 : Int), .int .u8 ((paidT t'.ki t'.bo).1.x7 : Int)] 23))
  have Hat3a := Lib.hid (Hat3.out.up (below_one w3 (.cells #[.int .u8 ((paidT t'.ki t'.bo).1.x0 : Int), .int .u8 ((paidT t'.ki t'.bo).1.x1 : Int), .int .u8 ((paidT t'.ki t'.bo).1.x2 : Int), .int .u8 ((paidT t'.ki t'.bo).1.x3 : Int), .int .u8 ((paidT t'.ki t'.bo).1.x4 : Int), .int .u8 ((paidT t'.ki t'.bo).1.x5 : Int), .int .u8 ((paidT t'.ki t'.bo).1.x6 : Int), .int .u8 ((paidT t'.ki t'.bo).1.x7 : Int)] 23)))
  obtain ⟨y0, y1, y2, y3, y4, y5, y6, y7, y8, y9, y10, y11, y12⟩ := HB3.out.all
  have hlt3 := block_lt HB3.out
  go_wp2_with fail
  generalize w3.alloc (.cells #[.int .u8 ((paidT t'.ki t'.bo).1.x0 : Int), .int .u8 ((paidT t'.ki t'.bo).1.x1 : Int), .int .u8 ((paidT t'.ki t'.bo).1.x2 : Int), .int .u8 ((paidT t'.ki t'.bo).1.x3 : Int), .int .u8 ((paidT t'.ki t'.bo).1.x4 : Int), .int .u8 ((paidT t'.ki t'.bo).1.x5 : Int), .int .u8 ((paidT t'.ki t'.bo).1.x6 : Int), .int .u8 ((paidT t'.ki t'.bo).1.x7 : Int)] 23) = w4 at *
  refine (of_any t' w4).mono ?_
  rintro e w5 ⟨rfl, hb5⟩
  have HD5 := Lib.hid (HD3a.out.below hb5)
  have HP5 := Lib.hid (HP3a.out.below hb5)
  have Hw5 := Lib.hid (Hw3a.out.trans (hb5.mono Hw3a.out.size))
  have Hat5 := Lib.hid (Hat3a.out.up hb5)
  clear hb5 y0 y1 y2 y3 y4 y5 y6 y7 y8 y9 y10 y11 y12
  go_wp2_with fail
  refine (paidr_any t' w5 Hat5.out).mono ?_
  rintro e w6 ⟨rfl, hb6⟩
  have HD6 := Lib.hid (show DBox dst 22 (w6.alloc (.cells #[.int .u8 ((paidT t'.ki t'.bo).1.x0 : Int), .int .u8 ((paidT t'.ki t'.bo).1.x1 : Int), .int .u8 ((paidT t'.ki t'.bo).1.x2 : Int), .int .u8 ((paidT t'.ki t'.bo).1.x3 : Int), .int .u8 ((paidT t'.ki t'.bo).1.x4 : Int), .int .u8 ((paidT t'.ki t'.bo).1.x5 : Int), .int .u8 ((paidT t'.ki t'.bo).1.x6 : Int), .int .u8 ((paidT t'.ki t'.bo).1.x7 : Int)] 22)) (w.heap.size + 1) from block_alloc (HD5.out.below hb6) _)
  have HP6 := Lib.hid (show DBox (paidT t'.ki t'.bo).1 23 (w6.alloc (.cells #[.int .u8 ((paidT t'.ki t'.bo).1.x0 : Int), .int .u8 ((paidT t'.ki t'.bo).1.x1 : Int), .int .u8 ((paidT t'.ki t'.bo).1.x2 : Int), .int .u8 ((paidT t'.ki t'.bo).1.x3 : Int), .int .u8 ((paidT t'.ki t'.bo).1.x4 : Int), .int .u8 ((paidT t'.ki t'.bo).1.x5 : Int), .int .u8 ((paidT t'.ki t'.bo).1.x6 : Int), .int .u8 ((paidT t'.ki t'.bo).1.x7 : Int)] 22)) w3.heap.size from block_alloc (HP5.out.below hb6) _)
  have HQ6 := Lib.hid (show DBox (paidT t'.ki t'.bo).1 22 (w6.alloc (.cells #[.int .u8 ((paidT t'.ki t'.bo).1.x0 : Int), .int .u8 ((paidT t'.ki t'.bo).1.x1 : Int), .int .u8 ((paidT t'.ki t'.bo).1.x2 : Int), .int .u8 ((paidT t'.ki t'.bo).1.x3 : Int), .int .u8 ((paidT t'.ki t'.bo).1.x4 : Int), .int .u8 ((paidT t'.ki t'.bo).1.x5 : Int), .int .u8 ((paidT t'.ki t'.bo).1.x6 : Int), .int .u8 ((paidT t'.ki t'.bo).1.x7 : Int)] 22)) w6.heap.size from heap_alloc_new w6 _)
  have Hw6 := Lib.hid ((Hw5.out.trans (hb6.mono Hw5.out.size)).alloc (Hw5.out.trans (hb6.mono Hw5.out.size)).size (.cells #[.int .u8 ((paidT t'.ki t'.bo).1.x0 : Int), .int .u8 ((paidT t'.ki t'.bo).1.x1 : Int), .int .u8 ((paidT t'.ki t'.bo).1.x2 : Int), .int .u8 ((paidT t'.ki t'.bo).1.x3 : Int), .int .u8 ((paidT t'.ki t'.bo).1.x4 : Int), .int .u8 ((paidT t'.ki t'.bo).1.x5 : Int), .int .u8 ((paidT t'.ki t'.bo).1.x6 : Int), .int .u8 ((paidT t'.ki t'.bo).1.x7 : Int)] 22))
  clear hb6
  generalize hq : paidT t'.ki t'.bo = q at *
  obtain ⟨pd, pn, pe⟩ := q
  clear hq
  simp only at HD6 HP6 HQ6 Hw6 ⊢
  have g1 : eqI [(pd.x0 : Int), (pd.x1 : Int), (pd.x2 : Int), (pd.x3 : Int), (pd.x4 : Int), (pd.x5 : Int), (pd.x6 : Int), (pd.x7 : Int)] [(pd.x0 : Int), (pd.x1 : Int), (pd.x2 : Int), (pd.x3 : Int), (pd.x4 : Int), (pd.x5 : Int), (pd.x6 : Int), (pd.x7 : Int)] = true := eqI_refl _
  go_wp2_with fail
  generalize w6.alloc (.cells #[.int .u8 (pd.x0 : Int), .int .u8 (pd.x1 : Int), .int .u8 (pd.x2 : Int), .int .u8 (pd.x3 : Int), .int .u8 (pd.x4 : Int), .int .u8 (pd.x5 : Int), .int .u8 (pd.x6 : Int), .int .u8 (pd.x7 : Int)] 22) = w7 at *
  go_region_held3 (fun w' => (w'.cell? ⟨w3.heap.size, 0, none⟩ = some (.int .u8 (pd.x0 : Int)) ∧ w'.cell? ⟨w3.heap.size, 1, none⟩ = some (.int .u8 (pd.x1 : Int)) ∧ w'.cell? ⟨w3.heap.size, 2, none⟩ = some (.int .u8 (pd.x2 : Int)) ∧ w'.cell? ⟨w3.heap.size, 3, none⟩ = some (.int .u8 (pd.x3 : Int)) ∧ w'.cell? ⟨w3.heap.size, 4, none⟩ = some (.int .u8 (pd.x4 : Int)) ∧ w'.cell? ⟨w3.heap.size, 5, none⟩ = some (.int .u8 (pd.x5 : Int)) ∧ w'.cell? ⟨w3.heap.size, 6, none⟩ = some (.int .u8 (pd.x6 : Int)) ∧ w'.cell? ⟨w3.heap.size, 7, none⟩ = some (.int .u8 (pd.x7 : Int))) ∧ (w'.cell? ⟨w6.heap.size, 0, none⟩ = some (.int .u8 (pd.x0 : Int)) ∧ w'.cell? ⟨w6.heap.size, 1, none⟩ = some (.int .u8 (pd.x1 : Int)) ∧ w'.cell? ⟨w6.heap.size, 2, none⟩ = some (.int .u8 (pd.x2 : Int)) ∧ w'.cell? ⟨w6.heap.size, 3, none⟩ = some (.int .u8 (pd.x3 : Int)) ∧ w'.cell? ⟨w6.heap.size, 4, none⟩ = some (.int .u8 (pd.x4 : Int)) ∧ w'.cell? ⟨w6.heap.size, 5, none⟩ = some (.int .u8 (pd.x5 : Int)) ∧ w'.cell? ⟨w6.heap.size, 6, none⟩ = some (.int .u8 (pd.x6 : Int)) ∧ w'.cell? ⟨w6.heap.size, 7, none⟩ = some (.int .u8 (pd.x7 : Int))) ∧ (w'.cell? ⟨(w.heap.size + 1), 0, none⟩ = some (.int .u8 (dst.x0 : Int)) ∧ w'.cell? ⟨(w.heap.size + 1), 1, none⟩ = some (.int .u8 (dst.x1 : Int)) ∧ w'.cell? ⟨(w.heap.size + 1), 2, none⟩ = some (.int .u8 (dst.x2 : Int)) ∧ w'.cell? ⟨(w.heap.size + 1), 3, none⟩ = some (.int .u8 (dst.x3 : Int)) ∧ w'.cell? ⟨(w.heap.size + 1), 4, none⟩ = some (.int .u8 (dst.x4 : Int)) ∧ w'.cell? ⟨(w.heap.size + 1), 5, none⟩ = some (.int .u8 (dst.x5 : Int)) ∧ w'.cell? ⟨(w.heap.size + 1), 6, none⟩ = some (.int .u8 (dst.x6 : Int)) ∧ w'.cell? ⟨(w.heap.size + 1), 7, none⟩ = some (.int .u8 (dst.x7 : Int))))
    (first | exact DBox.all3 HP6.out.drew HQ6.out.drew HD6.out.drew | exact DBox.all3 HP8.out HQ8.out HD8.out | exact DBox.all3 HP9.out HQ9.out HD9.out | exact DBox.all3 HP10.out HQ10.out HD10.out | go_keep)
    (first
      | (go_at_call 15; refine (payTo_any dst am _ Hto.out).mono ?_; rintro e w8 ⟨A8, n8, c8, rfl, ho8, hn8, hb8⟩; have HP8 := Lib.hid (HP6.out.drew.below hb8); have HQ8 := Lib.hid (HQ6.out.drew.below hb8); have HD8 := Lib.hid (HD6.out.drew.below hb8); have Hw8 := Lib.hid (Hw6.out.drew.trans (hb8.mono Hw6.out.size)); have Hr8 := Lib.hid (Rd.of_own ho8); have hl8 : n8 ≤ 22 := hn8 ▸ payL_len dst am; clear ho8 hn8 hb8)
      | (go_at_call 16; refine (payTor_any dst am _ Hto.out).mono ?_; rintro e w9 ⟨A9, n9, c9, rfl, ho9, hn9, hb9⟩; have HP9 := Lib.hid (HP8.out.below hb9); have HQ9 := Lib.hid (HQ8.out.below hb9); have HD9 := Lib.hid (HD8.out.below hb9); have Hw9 := Lib.hid (Hw8.out.trans (hb9.mono Hw8.out.size)); have Hr9 := Lib.hid (Rd.of_own ho9); have Hr8b := Lib.hid (Hr8.out.up hb9 (Nat.le_refl _)); have hl9 : n9 ≤ 22 := hn9 ▸ payL_len dst am; clear ho9 hn9 hb9)
      | (go_at_call 14; refine (samer_any A8 A9 n8 c8 n9 c9 (payL dst am) (payL dst am) _ Hr8b.out Hr9.out (by omega) (by omega)).mono ?_; rintro e w10 ⟨rfl, hb10⟩; rw [sameB_yes rfl]; have HP10 := Lib.hid (HP9.out.below hb10); have HQ10 := Lib.hid (HQ9.out.below hb10); have HD10 := Lib.hid (HD9.out.below hb10); have Hw10 := Lib.hid (Hw9.out.trans (hb10.mono Hw9.out.size)); clear hb10))
  all_goals
    obtain ⟨z0, z1, z2, z3, z4, z5, z6, z7⟩ := HD10.out.all
    go_wp2_with fail
    refine (payTo_any dst am _ Hto.out).mono ?_
    rintro e w11 ⟨A11, n11, c11, rfl, ho11, hn11, hb11⟩
    have HD11 := Lib.hid (HD10.out.below hb11)
    have Hw11 := Lib.hid (Hw10.out.trans (hb11.mono Hw10.out.size))
    have Hc11 := Lib.hid (own_cap ho11)
    have Hr11 := Lib.hid (Rd.of_own ho11)
    have hl11 : n11 ≤ 22 := hn11 ▸ payL_len dst am
    clear ho11 hn11 hb11 z0 z1 z2 z3 z4 z5 z6 z7
    go_wp2_with fail
    refine (paid_any ⟨d0, 0, 0, 0, A11, n11, c11, none, 0, 0, payL dst am, []⟩ w11 ⟨by unfold D8.ok d0; simp, Hr11.out, Rd.empty, Hc11.out, by simp, payL_small Hto.out am, by simp, by simp only; omega, by simp⟩).mono ?_
    rintro e w12 ⟨rfl, hb12⟩
    have HD12 := Lib.hid (HD11.out.below hb12)
    have Hw12 := Lib.hid (Hw11.out.trans (hb12.mono Hw11.out.size))
    clear hb12
    simp only [Hpp.out]
    by_cases ham : 0 ≤ am ∧ am ≤ 1125899906842624
    · simp only [if_pos ham]
      have b1 : decide (am < 0) = false := decide_eq_false (by omega)
      have b2 : decide (1125899906842624 < am) = false := decide_eq_false (by omega)
      clear ham
      have HD13 := Lib.hid (show DBox dst 22 (w12.alloc (.cells #[.int .u8 (dst.x0 : Int), .int .u8 (dst.x1 : Int), .int .u8 (dst.x2 : Int), .int .u8 (dst.x3 : Int), .int .u8 (dst.x4 : Int), .int .u8 (dst.x5 : Int), .int .u8 (dst.x6 : Int), .int .u8 (dst.x7 : Int)] 23)) (w.heap.size + 1) from block_alloc HD12.out _)
      have HQ13 := Lib.hid (show DBox dst 23 (w12.alloc (.cells #[.int .u8 (dst.x0 : Int), .int .u8 (dst.x1 : Int), .int .u8 (dst.x2 : Int), .int .u8 (dst.x3 : Int), .int .u8 (dst.x4 : Int), .int .u8 (dst.x5 : Int), .int .u8 (dst.x6 : Int), .int .u8 (dst.x7 : Int)] 23)) w12.heap.size from heap_alloc_new w12 _)
      have Hw13 := Lib.hid (Hw12.out.alloc Hw12.out.size (.cells #[.int .u8 (dst.x0 : Int), .int .u8 (dst.x1 : Int), .int .u8 (dst.x2 : Int), .int .u8 (dst.x3 : Int), .int .u8 (dst.x4 : Int), .int .u8 (dst.x5 : Int), .int .u8 (dst.x6 : Int), .int .u8 (dst.x7 : Int)] 23))
      have g2 : eqI [(dst.x0 : Int), (dst.x1 : Int), (dst.x2 : Int), (dst.x3 : Int), (dst.x4 : Int), (dst.x5 : Int), (dst.x6 : Int), (dst.x7 : Int)] [(dst.x0 : Int), (dst.x1 : Int), (dst.x2 : Int), (dst.x3 : Int), (dst.x4 : Int), (dst.x5 : Int), (dst.x6 : Int), (dst.x7 : Int)] = true := eqI_refl _
      go_wp2_with fail
      refine (known_any _).mono ?_
      rintro e w14 ⟨rfl, hb14⟩
      obtain ⟨z0, z1, z2, z3, z4, z5, z6, z7⟩ := (HD13.out.below hb14).all
      obtain ⟨x0, x1, x2, x3, x4, x5, x6, x7⟩ := (HQ13.out.below hb14).all
      have Hw14 := Lib.hid (Hw13.out.trans (hb14.mono Hw13.out.size))
      clear hb14
      go_wp2
      go_ret
      exact ⟨rfl, Hw14.out⟩
    · simp only [if_neg ham]
      have HQ13 := Lib.hid (show DBox d0 23 (w12.alloc (.cells #[.int .u8 (d0.x0 : Int), .int .u8 (d0.x1 : Int), .int .u8 (d0.x2 : Int), .int .u8 (d0.x3 : Int), .int .u8 (d0.x4 : Int), .int .u8 (d0.x5 : Int), .int .u8 (d0.x6 : Int), .int .u8 (d0.x7 : Int)] 23)) w12.heap.size from heap_alloc_new w12 _)
      have Hw13 := Lib.hid (Hw12.out.alloc Hw12.out.size (.cells #[.int .u8 (d0.x0 : Int), .int .u8 (d0.x1 : Int), .int .u8 (d0.x2 : Int), .int .u8 (d0.x3 : Int), .int .u8 (d0.x4 : Int), .int .u8 (d0.x5 : Int), .int .u8 (d0.x6 : Int), .int .u8 (d0.x7 : Int)] 23))
      have g2 : eqI [0, 0, 0, 0, 0, 0, 0, 0] [0, 0, 0, 0, 0, 0, 0, 0] = true := eqI_refl _
      by_cases h3 : am < 0
      · have b1 : decide (am < 0) = true := decide_eq_true h3
        clear ham h3
        go_wp2_with fail
        refine (known_any _).mono ?_
        rintro e w14 ⟨rfl, hb14⟩
        obtain ⟨x0, x1, x2, x3, x4, x5, x6, x7⟩ := (HQ13.out.below hb14).all
        have Hw14 := Lib.hid (Hw13.out.trans (hb14.mono Hw13.out.size))
        simp [d0] at x0 x1 x2 x3 x4 x5 x6 x7
        clear hb14
        go_wp2
        go_ret
        exact ⟨rfl, Hw14.out⟩
      · have b1 : decide (am < 0) = false := decide_eq_false h3
        have b2 : decide (1125899906842624 < am) = true := decide_eq_true (by omega)
        clear ham h3
        go_wp2_with fail
        refine (known_any _).mono ?_
        rintro e w14 ⟨rfl, hb14⟩
        obtain ⟨x0, x1, x2, x3, x4, x5, x6, x7⟩ := (HQ13.out.below hb14).all
        have Hw14 := Lib.hid (Hw13.out.trans (hb14.mono Hw13.out.size))
        simp [d0] at x0 x1 x2 x3 x4 x5 x6 x7
        clear hb14
        go_wp2
        go_ret
        exact ⟨rfl, Hw14.out⟩
end Go.Proofs.Ytebepgoaofhelaa
