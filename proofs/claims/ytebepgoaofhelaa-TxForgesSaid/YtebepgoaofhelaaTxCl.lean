/- The walk of Clone of a transaction. Condition: what it reads can be read. -/
import Derived.Test.YtebepgoaofhelaaTxG
import Derived.Test.YtebepgoaofhelaaByt2
namespace Go.Proofs.Ytebepgoaofhelaa
open Go.RowKit Go.Lib

/-- A clone: its bytes lie in two rows of its own, the second behind the first. -/
def GivesC (t : TxV) (w : World) (e : Ending) (w' : World) : Prop :=
  ∃ A n c A' n' c' m, e = .returned (.agg #[.int .u8 (t.d.x0 : Int), .int .u8 (t.d.x1 : Int), .int .u8 (t.d.x2 : Int), .int .u8 (t.d.x3 : Int), .int .u8 (t.d.x4 : Int), .int .u8 (t.d.x5 : Int), .int .u8 (t.d.x6 : Int), .int .u8 (t.d.x7 : Int), .int .i64 t.no, .int .i64 t.fe, .int .i64 t.ki, .slice A n c, .slice A' n' c']) ∧
    w'.ownsRow w.heap.size 5 1 (.slice A n c) n (bv t.bo) ∧ (∀ b, (Value.slice A n c).ownBlock = some b → b < m) ∧ w.heap.size ≤ m ∧
    w'.ownsRow m 5 1 (.slice A' n' c') n' (bv t.si) ∧ n = t.bo.length ∧ n' = t.si.length ∧ Below w.heap.size w w'
set_option maxRecDepth 100000 in
set_option maxHeartbeats 2000000 in
theorem txclone_any (t : TxV) (w : World) (h : t.At w) : Calls Try.prog 22 #[.agg #[.int .u8 (t.d.x0 : Int), .int .u8 (t.d.x1 : Int), .int .u8 (t.d.x2 : Int), .int .u8 (t.d.x3 : Int), .int .u8 (t.d.x4 : Int), .int .u8 (t.d.x5 : Int), .int .u8 (t.d.x6 : Int), .int .u8 (t.d.x7 : Int), .int .i64 t.no, .int .i64 t.fe, .int .i64 t.ki, .slice t.A t.n t.c, .slice t.A' t.n' t.c']] w (GivesC t w) := by
  have HT0 := Lib.hid (block_alloc (heap_alloc_new w (.cells #[.int .u8 (t.d.x0 : Int), .int .u8 (t.d.x1 : Int), .int .u8 (t.d.x2 : Int), .int .u8 (t.d.x3 : Int), .int .u8 (t.d.x4 : Int), .int .u8 (t.d.x5 : Int), .int .u8 (t.d.x6 : Int), .int .u8 (t.d.x7 : Int), .int .i64 t.no, .int .i64 t.fe, .int .i64 t.ki, .slice t.A t.n t.c, .slice t.A' t.n' t.c'] 26)) (.cells #[.int .u8 0, .int .u8 0, .int .u8 0, .int .u8 0, .int .u8 0, .int .u8 0, .int .u8 0, .int .u8 0, .int .i64 0, .int .i64 0, .int .i64 0, .slice none 0 0, .slice none 0 0] 26))
  have ht1 := heap_alloc_new (w.alloc (.cells #[.int .u8 (t.d.x0 : Int), .int .u8 (t.d.x1 : Int), .int .u8 (t.d.x2 : Int), .int .u8 (t.d.x3 : Int), .int .u8 (t.d.x4 : Int), .int .u8 (t.d.x5 : Int), .int .u8 (t.d.x6 : Int), .int .u8 (t.d.x7 : Int), .int .i64 t.no, .int .i64 t.fe, .int .i64 t.ki, .slice t.A t.n t.c, .slice t.A' t.n' t.c'] 26)) (.cells #[.int .u8 0, .int .u8 0, .int .u8 0, .int .u8 0, .int .u8 0, .int .u8 0, .int .u8 0, .int .u8 0, .int .i64 0, .int .i64 0, .int .i64 0, .slice none 0 0, .slice none 0 0] 26)
  rw [World.size_alloc] at ht1
  have HT1 := Lib.hid ht1
  have Hw := Lib.hid (below_two w (.cells #[.int .u8 (t.d.x0 : Int), .int .u8 (t.d.x1 : Int), .int .u8 (t.d.x2 : Int), .int .u8 (t.d.x3 : Int), .int .u8 (t.d.x4 : Int), .int .u8 (t.d.x5 : Int), .int .u8 (t.d.x6 : Int), .int .u8 (t.d.x7 : Int), .int .i64 t.no, .int .i64 t.fe, .int .i64 t.ki, .slice t.A t.n t.c, .slice t.A' t.n' t.c'] 26) (.cells #[.int .u8 0, .int .u8 0, .int .u8 0, .int .u8 0, .int .u8 0, .int .u8 0, .int .u8 0, .int .u8 0, .int .i64 0, .int .i64 0, .int .i64 0, .slice none 0 0, .slice none 0 0] 26))
  have Hr1 := Lib.hid (h.r1.up Hw.out (Nat.le_refl _)); have Hr2 := Lib.hid h.r2
  have Hm1 := Lib.hid h.m1; have Hm2 := Lib.hid h.m2
  have Hz : Hid (((w.alloc (.cells #[.int .u8 (t.d.x0 : Int), .int .u8 (t.d.x1 : Int), .int .u8 (t.d.x2 : Int), .int .u8 (t.d.x3 : Int), .int .u8 (t.d.x4 : Int), .int .u8 (t.d.x5 : Int), .int .u8 (t.d.x6 : Int), .int .u8 (t.d.x7 : Int), .int .i64 t.no, .int .i64 t.fe, .int .i64 t.ki, .slice t.A t.n t.c, .slice t.A' t.n' t.c'] 26)).alloc (.cells #[.int .u8 0, .int .u8 0, .int .u8 0, .int .u8 0, .int .u8 0, .int .u8 0, .int .u8 0, .int .u8 0, .int .i64 0, .int .i64 0, .int .i64 0, .slice none 0 0, .slice none 0 0] 26)).heap.size = w.heap.size + 2) := by show _ = _; simp
  clear h ht1
  go_enter Try.func22, Try.ntmps22
  go_wp2_with fail
  refine (clone_any t.A t.n t.c t.bo _ Hr1.out (by have := Hm1.out; omega)).mono ?_
  rintro e w1 ⟨A1, n1, c1, rfl, ho1, hn1, hb1⟩
  generalize ((w.alloc (.cells #[.int .u8 (t.d.x0 : Int), .int .u8 (t.d.x1 : Int), .int .u8 (t.d.x2 : Int), .int .u8 (t.d.x3 : Int), .int .u8 (t.d.x4 : Int), .int .u8 (t.d.x5 : Int), .int .u8 (t.d.x6 : Int), .int .u8 (t.d.x7 : Int), .int .i64 t.no, .int .i64 t.fe, .int .i64 t.ki, .slice t.A t.n t.c, .slice t.A' t.n' t.c'] 26)).alloc (.cells #[.int .u8 0, .int .u8 0, .int .u8 0, .int .u8 0, .int .u8 0, .int .u8 0, .int .u8 0, .int .u8 0, .int .i64 0, .int .i64 0, .int .i64 0, .slice none 0 0, .slice none 0 0] 26)) = w0 at *
  have T0 := block_below HT0.out hb1 (by rw [Hz.out]; omega)
  have T1 := block_below HT1.out hb1 (by rw [Hz.out]; omega)
  have Hw1 := Lib.hid (Hw.out.trans (hb1.mono Hw.out.size))
  have hz1 : w.heap.size + 2 ≤ w1.heap.size := by have := hb1.size; rw [Hz.out] at this; exact this
  rw [Hz.out] at ho1
  have s0 := Joins.block_setCell (i := 11) T0 (.slice A1 n1 c1)
  have sg := grown_set (w := w1) w.heap.size 11 (.slice A1 n1 c1)
  have Ho1 := Lib.hid ho1; have Hn1 := Lib.hid hn1
  have y11 := block_cell T0 11; have y12 := block_cell T0 12; have yf := block_free T0
  simp at y11 y12 s0
  have S0 := Lib.hid s0; have Sg := Lib.hid sg; have HT1b := Lib.hid T1
  clear s0 sg T0 T1 hb1 ho1 hn1
  go_wp2_with fail
  generalize w1.setCell ⟨w.heap.size, 11, none⟩ (.slice A1 n1 c1) = w2 at *
  have Hw2 := Lib.hid (below_gr Hw1.out Sg.out (Nat.le_refl _))
  have Ho2 := Lib.hid (own_grown Ho1.out Sg.out (by omega))
  have HT1c := Lib.hid ((Sg.out.block (w.heap.size + 1) (by omega) (by simp)).trans HT1b.out)
  have hz2 : w.heap.size + 2 ≤ w2.heap.size := Nat.le_trans hz1 Sg.out.size
  clear y11 y12 yf
  refine (clone_any t.A' t.n' t.c' t.si w2 (Hr2.out.up Hw2.out (Nat.le_refl _)) (by have := Hm2.out; omega)).mono ?_
  rintro e w3 ⟨A3, n3, c3, rfl, ho3, hn3, hb3⟩
  have T0 := block_below S0.out hb3 (by omega)
  have T1 := block_below HT1c.out hb3 (by omega)
  have Hw3 := Lib.hid (Hw2.out.trans (hb3.mono Hw2.out.size))
  have Ho1d := Lib.hid (own_below Ho2.out hb3)
  have Ho3 := Lib.hid ho3; have Hn3 := Lib.hid hn3
  have hz3 : w.heap.size + 2 ≤ w3.heap.size := Nat.le_trans hz2 hb3.size
  have Hlt := Lib.hid (fun b hb => (Ho2.out.lt b hb).2)
  have y := block_cell T0
  have y0 := y 0; have y1 := y 1; have y2 := y 2; have y3 := y 3; have y4 := y 4; have y5 := y 5; have y6 := y 6; have y7 := y 7; have y8 := y 8; have y9 := y 9; have y10 := y 10; have y11 := y 11; have y12 := y 12
  have yf := block_free T0
  have z := block_cell T1
  have z0 := z 0; have z1 := z 1; have z2 := z 2; have z3 := z 3; have z4 := z 4; have z5 := z 5; have z6 := z 6; have z7 := z 7; have z8 := z 8; have z9 := z 9; have z10 := z 10; have z11 := z 11; have z12 := z 12
  have zf := block_free T1
  simp at y0 y1 y2 y3 y4 y5 y6 y7 y8 y9 y10 y11 y12 z0 z1 z2 z3 z4 z5 z6 z7 z8 z9 z10 z11 z12
  clear y z T0 T1 hb3 ho3 hn3
  go_wp2
  refine bodyPost_ret (v := .agg #[.int .u8 (t.d.x0 : Int), .int .u8 (t.d.x1 : Int), .int .u8 (t.d.x2 : Int), .int .u8 (t.d.x3 : Int), .int .u8 (t.d.x4 : Int), .int .u8 (t.d.x5 : Int), .int .u8 (t.d.x6 : Int), .int .u8 (t.d.x7 : Int), .int .i64 t.no, .int .i64 t.fe, .int .i64 t.ki, .slice A1 n1 c1, .slice A3 n3 c3]) (by simp [results, Try.results22, go_sem, z0, z1, z2, z3, z4, z5, z6, z7, z8, z9, z10, z11, z12]) rfl
    ⟨A1, n1, c1, A3, n3, c3, w2.heap.size, rfl, ?_, Hlt.out, Hw2.out.size, ?_, Hn1.out, Hn3.out, ?_⟩
  · refine own_down (base := w.heap.size + 2) ?_ (by omega)
    repeat refine ownsRow_setCell_below ?_ (by first | (show w.heap.size < _; omega) | (show w.heap.size + 1 < _; omega)) _
    exact Ho1d.out
  · repeat refine ownsRow_setCell_below ?_ (by first | (show w.heap.size < _; omega) | (show w.heap.size + 1 < _; omega)) _
    exact Ho3.out
  · exact ((((((((((((((Hw3.out.setCell (p := ⟨w.heap.size, 12, none⟩) (by simp) _).setCell (by simp) _).setCell (by simp) _).setCell (by simp) _).setCell (by simp) _).setCell (by simp) _).setCell (by simp) _).setCell (by simp) _).setCell (by simp) _).setCell (by simp) _).setCell (by simp) _).setCell (by simp) _).setCell (by simp) _).setCell (by simp) _)
end Go.Proofs.Ytebepgoaofhelaa
