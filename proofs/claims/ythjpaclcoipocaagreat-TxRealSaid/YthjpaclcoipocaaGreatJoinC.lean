/- The walk of Clone of a transaction. Condition: what it reads can be read. The walks of Same of transactions, the program's and the reference's. Conditions: bounds on how many bytes. -/
import Derived.Test.YthjpaclcoipocaaGreatJoinY
import Derived.Test.YthjpaclcoipocaaGreatByt2
import Derived.Test.YthjpaclcoipocaaGreatDigEq
namespace Go.Proofs.YthjpaclcoipocaaGreat
open Go.RowKit Go.Lib

/-- A clone: its bytes lie in two rows of its own, the second behind the first. -/
def GivesC (t : TxV) (w : World) (e : Ending) (w' : World) : Prop :=
  ∃ A n c A' n' c' m, e = .returned (.agg #[.int .u8 (t.d.x0 : Int), .int .u8 (t.d.x1 : Int), .int .u8 (t.d.x2 : Int), .int .u8 (t.d.x3 : Int), .int .u8 (t.d.x4 : Int), .int .u8 (t.d.x5 : Int), .int .u8 (t.d.x6 : Int), .int .u8 (t.d.x7 : Int), .int .i64 t.no, .int .i64 t.fe, .int .i64 t.ki, .slice A n c, .slice A' n' c']) ∧
    w'.ownsRow w.heap.size 5 1 (.slice A n c) n (bv t.bo) ∧ (∀ b, (Value.slice A n c).ownBlock = some b → b < m) ∧ w.heap.size ≤ m ∧
    w'.ownsRow m 5 1 (.slice A' n' c') n' (bv t.si) ∧ n = t.bo.length ∧ n' = t.si.length ∧ Below w.heap.size w w'
set_option maxRecDepth 100000 in
set_option maxHeartbeats 2000000 in
theorem txclone_any (t : TxV) (w : World) (h : t.At w) : Calls Tryz.prog 11 #[.agg #[.int .u8 (t.d.x0 : Int), .int .u8 (t.d.x1 : Int), .int .u8 (t.d.x2 : Int), .int .u8 (t.d.x3 : Int), .int .u8 (t.d.x4 : Int), .int .u8 (t.d.x5 : Int), .int .u8 (t.d.x6 : Int), .int .u8 (t.d.x7 : Int), .int .i64 t.no, .int .i64 t.fe, .int .i64 t.ki, .slice t.A t.n t.c, .slice t.A' t.n' t.c']] w (GivesC t w) := by
  have HT0 := Lib.hid (block_alloc (heap_alloc_new w (.cells #[.int .u8 (t.d.x0 : Int), .int .u8 (t.d.x1 : Int), .int .u8 (t.d.x2 : Int), .int .u8 (t.d.x3 : Int), .int .u8 (t.d.x4 : Int), .int .u8 (t.d.x5 : Int), .int .u8 (t.d.x6 : Int), .int .u8 (t.d.x7 : Int), .int .i64 t.no, .int .i64 t.fe, .int .i64 t.ki, .slice t.A t.n t.c, .slice t.A' t.n' t.c'] 32)) (.cells #[.int .u8 0, .int .u8 0, .int .u8 0, .int .u8 0, .int .u8 0, .int .u8 0, .int .u8 0, .int .u8 0, .int .i64 0, .int .i64 0, .int .i64 0, .slice none 0 0, .slice none 0 0] 32))
  have ht1 := heap_alloc_new (w.alloc (.cells #[.int .u8 (t.d.x0 : Int), .int .u8 (t.d.x1 : Int), .int .u8 (t.d.x2 : Int), .int .u8 (t.d.x3 : Int), .int .u8 (t.d.x4 : Int), .int .u8 (t.d.x5 : Int), .int .u8 (t.d.x6 : Int), .int .u8 (t.d.x7 : Int), .int .i64 t.no, .int .i64 t.fe, .int .i64 t.ki, .slice t.A t.n t.c, .slice t.A' t.n' t.c'] 32)) (.cells #[.int .u8 0, .int .u8 0, .int .u8 0, .int .u8 0, .int .u8 0, .int .u8 0, .int .u8 0, .int .u8 0, .int .i64 0, .int .i64 0, .int .i64 0, .slice none 0 0, .slice none 0 0] 32)
  rw [World.size_alloc] at ht1
  have HT1 := Lib.hid ht1
  have Hw := Lib.hid (below_two w (.cells #[.int .u8 (t.d.x0 : Int), .int .u8 (t.d.x1 : Int), .int .u8 (t.d.x2 : Int), .int .u8 (t.d.x3 : Int), .int .u8 (t.d.x4 : Int), .int .u8 (t.d.x5 : Int), .int .u8 (t.d.x6 : Int), .int .u8 (t.d.x7 : Int), .int .i64 t.no, .int .i64 t.fe, .int .i64 t.ki, .slice t.A t.n t.c, .slice t.A' t.n' t.c'] 32) (.cells #[.int .u8 0, .int .u8 0, .int .u8 0, .int .u8 0, .int .u8 0, .int .u8 0, .int .u8 0, .int .u8 0, .int .i64 0, .int .i64 0, .int .i64 0, .slice none 0 0, .slice none 0 0] 32))
  have Hr1 := Lib.hid (h.r1.up Hw.out (Nat.le_refl _)); have Hr2 := Lib.hid h.r2
  have Hm1 := Lib.hid h.m1; have Hm2 := Lib.hid h.m2
  have Hz : Hid (((w.alloc (.cells #[.int .u8 (t.d.x0 : Int), .int .u8 (t.d.x1 : Int), .int .u8 (t.d.x2 : Int), .int .u8 (t.d.x3 : Int), .int .u8 (t.d.x4 : Int), .int .u8 (t.d.x5 : Int), .int .u8 (t.d.x6 : Int), .int .u8 (t.d.x7 : Int), .int .i64 t.no, .int .i64 t.fe, .int .i64 t.ki, .slice t.A t.n t.c, .slice t.A' t.n' t.c'] 32)).alloc (.cells #[.int .u8 0, .int .u8 0, .int .u8 0, .int .u8 0, .int .u8 0, .int .u8 0, .int .u8 0, .int .u8 0, .int .i64 0, .int .i64 0, .int .i64 0, .slice none 0 0, .slice none 0 0] 32)).heap.size = w.heap.size + 2) := by show _ = _; simp
  clear h ht1
  go_enter Tryz.func11, Tryz.ntmps11
  go_wp2_with fail
  refine (clone_any t.A t.n t.c t.bo _ Hr1.out (by have := Hm1.out; omega)).mono ?_
  rintro e w1 ⟨A1, n1, c1, rfl, ho1, hn1, hb1⟩
  generalize ((w.alloc (.cells #[.int .u8 (t.d.x0 : Int), .int .u8 (t.d.x1 : Int), .int .u8 (t.d.x2 : Int), .int .u8 (t.d.x3 : Int), .int .u8 (t.d.x4 : Int), .int .u8 (t.d.x5 : Int), .int .u8 (t.d.x6 : Int), .int .u8 (t.d.x7 : Int), .int .i64 t.no, .int .i64 t.fe, .int .i64 t.ki, .slice t.A t.n t.c, .slice t.A' t.n' t.c'] 32)).alloc (.cells #[.int .u8 0, .int .u8 0, .int .u8 0, .int .u8 0, .int .u8 0, .int .u8 0, .int .u8 0, .int .u8 0, .int .i64 0, .int .i64 0, .int .i64 0, .slice none 0 0, .slice none 0 0] 32)) = w0 at *
  have T0 := block_below HT0.out hb1 (by rw [Hz.out]; omega)
  have T1 := block_below HT1.out hb1 (by rw [Hz.out]; omega)
  have Hw1 := Lib.hid (Hw.out.trans (hb1.mono Hw.out.size))
  have hz1 : w.heap.size + 2 ≤ w1.heap.size := by have := hb1.size; rw [Hz.out] at this; exact this
  rw [Hz.out] at ho1
  have s0 := Joins.block_setCell (i := 11) T0 (.slice A1 n1 c1)
  have sg := grown_set (w := w1) w.heap.size 11 (.slice A1 n1 c1)
  have Ho1 := Lib.hid ho1; have Hn1 := Lib.hid hn1
  have y11 := block_cell T0 11; have y12 := block_cell T0 12; have yf := block_free T0
  simp at y11 y12 s0
  have S0 := Lib.hid s0; have Sg := Lib.hid sg; have HT1b := Lib.hid T1
  clear s0 sg T0 T1 hb1 ho1 hn1
  go_wp2_with fail
  generalize w1.setCell ⟨w.heap.size, 11, none⟩ (.slice A1 n1 c1) = w2 at *
  have Hw2 := Lib.hid (below_gr Hw1.out Sg.out (Nat.le_refl _))
  have Ho2 := Lib.hid (own_grown Ho1.out Sg.out (by omega))
  have HT1c := Lib.hid ((Sg.out.block (w.heap.size + 1) (by omega) (by simp)).trans HT1b.out)
  have hz2 : w.heap.size + 2 ≤ w2.heap.size := Nat.le_trans hz1 Sg.out.size
  clear y11 y12 yf
  refine (clone_any t.A' t.n' t.c' t.si w2 (Hr2.out.up Hw2.out (Nat.le_refl _)) (by have := Hm2.out; omega)).mono ?_
  rintro e w3 ⟨A3, n3, c3, rfl, ho3, hn3, hb3⟩
  have T0 := block_below S0.out hb3 (by omega)
  have T1 := block_below HT1c.out hb3 (by omega)
  have Hw3 := Lib.hid (Hw2.out.trans (hb3.mono Hw2.out.size))
  have Ho1d := Lib.hid (own_below Ho2.out hb3)
  have Ho3 := Lib.hid ho3; have Hn3 := Lib.hid hn3
  have hz3 : w.heap.size + 2 ≤ w3.heap.size := Nat.le_trans hz2 hb3.size
  have Hlt := Lib.hid (fun b hb => (Ho2.out.lt b hb).2)
  have y := block_cell T0
  have y0 := y 0; have y1 := y 1; have y2 := y 2; have y3 := y 3; have y4 := y 4; have y5 := y 5; have y6 := y 6; have y7 := y 7; have y8 := y 8; have y9 := y 9; have y10 := y 10; have y11 := y 11; have y12 := y 12
  have yf := block_free T0
  have z := block_cell T1
  have z0 := z 0; have z1 := z 1; have z2 := z 2; have z3 := z 3; have z4 := z 4; have z5 := z 5; have z6 := z 6; have z7 := z 7; have z8 := z 8; have z9 := z 9; have z10 := z 10; have z11 := z 11; have z12 := z 12
  have zf := block_free T1
  simp at y0 y1 y2 y3 y4 y5 y6 y7 y8 y9 y10 y11 y12 z0 z1 z2 z3 z4 z5 z6 z7 z8 z9 z10 z11 z12
  clear y z T0 T1 hb3 ho3 hn3
  go_wp2
  refine bodyPost_ret (v := .agg #[.int .u8 (t.d.x0 : Int), .int .u8 (t.d.x1 : Int), .int .u8 (t.d.x2 : Int), .int .u8 (t.d.x3 : Int), .int .u8 (t.d.x4 : Int), .int .u8 (t.d.x5 : Int), .int .u8 (t.d.x6 : Int), .int .u8 (t.d.x7 : Int), .int .i64 t.no, .int .i64 t.fe, .int .i64 t.ki, .slice A1 n1 c1, .slice A3 n3 c3]) (by simp [results, Tryz.results11, go_sem, z0, z1, z2, z3, z4, z5, z6, z7, z8, z9, z10, z11, z12]) rfl
    ⟨A1, n1, c1, A3, n3, c3, w2.heap.size, rfl, ?_, Hlt.out, Hw2.out.size, ?_, Hn1.out, Hn3.out, ?_⟩
  · refine own_down (base := w.heap.size + 2) ?_ (by omega)
    repeat refine ownsRow_setCell_below ?_ (by first | (show w.heap.size < _; omega) | (show w.heap.size + 1 < _; omega)) _
    exact Ho1d.out
  · repeat refine ownsRow_setCell_below ?_ (by first | (show w.heap.size < _; omega) | (show w.heap.size + 1 < _; omega)) _
    exact Ho3.out
  · exact ((((((((((((((Hw3.out.setCell (p := ⟨w.heap.size, 12, none⟩) (by simp) _).setCell (by simp) _).setCell (by simp) _).setCell (by simp) _).setCell (by simp) _).setCell (by simp) _).setCell (by simp) _).setCell (by simp) _).setCell (by simp) _).setCell (by simp) _).setCell (by simp) _).setCell (by simp) _).setCell (by simp) _).setCell (by simp) _)
end Go.Proofs.YthjpaclcoipocaaGreat
namespace Go.Proofs.YthjpaclcoipocaaGreat
open Go.RowKit Go.Lib


def sameT (a b : TxV) : Bool := eqI [(a.d.x0 : Int), (a.d.x1 : Int), (a.d.x2 : Int), (a.d.x3 : Int), (a.d.x4 : Int), (a.d.x5 : Int), (a.d.x6 : Int), (a.d.x7 : Int)] [(b.d.x0 : Int), (b.d.x1 : Int), (b.d.x2 : Int), (b.d.x3 : Int), (b.d.x4 : Int), (b.d.x5 : Int), (b.d.x6 : Int), (b.d.x7 : Int)] && (a.no == b.no) && (a.fe == b.fe) && (a.ki == b.ki) && sameB a.bo b.bo && sameB a.si b.si
theorem d8_ext {a b : D8} (h : [(a.x0 : Int), (a.x1 : Int), (a.x2 : Int), (a.x3 : Int), (a.x4 : Int), (a.x5 : Int), (a.x6 : Int), (a.x7 : Int)] = [(b.x0 : Int), (b.x1 : Int), (b.x2 : Int), (b.x3 : Int), (b.x4 : Int), (b.x5 : Int), (b.x6 : Int), (b.x7 : Int)]) : a = b := by
  obtain ⟨a0, a1, a2, a3, a4, a5, a6, a7⟩ := a
  obtain ⟨b0, b1, b2, b3, b4, b5, b6, b7⟩ := b
  simp at h
  simp only [D8.mk.injEq]
  omega
theorem sameT_iff {a b : TxV} : sameT a b = true ↔ a.d = b.d ∧ a.no = b.no ∧ a.fe = b.fe ∧ a.ki = b.ki ∧ a.bo = b.bo ∧ a.si = b.si := by
  unfold sameT
  simp only [Bool.and_eq_true, eqI_iff, beq_iff_eq, sameB_iff]
  constructor
  · rintro ⟨⟨⟨⟨⟨h1, h2⟩, h3⟩, h4⟩, h5⟩, h6⟩
    exact ⟨d8_ext h1, h2, h3, h4, h5, h6⟩
  · rintro ⟨h1, h2, h3, h4, h5, h6⟩
    rw [h1]
    exact ⟨⟨⟨⟨⟨rfl, h2⟩, h3⟩, h4⟩, h5⟩, h6⟩
set_option maxRecDepth 100000 in
set_option maxHeartbeats 2000000 in
theorem tsame_any (a b : TxV) (w : World) (ha : a.At w) (hb : b.At w) : Calls Tryz.prog 7 #[.agg #[.int .u8 (a.d.x0 : Int), .int .u8 (a.d.x1 : Int), .int .u8 (a.d.x2 : Int), .int .u8 (a.d.x3 : Int), .int .u8 (a.d.x4 : Int), .int .u8 (a.d.x5 : Int), .int .u8 (a.d.x6 : Int), .int .u8 (a.d.x7 : Int), .int .i64 a.no, .int .i64 a.fe, .int .i64 a.ki, .slice a.A a.n a.c, .slice a.A' a.n' a.c'], .agg #[.int .u8 (b.d.x0 : Int), .int .u8 (b.d.x1 : Int), .int .u8 (b.d.x2 : Int), .int .u8 (b.d.x3 : Int), .int .u8 (b.d.x4 : Int), .int .u8 (b.d.x5 : Int), .int .u8 (b.d.x6 : Int), .int .u8 (b.d.x7 : Int), .int .i64 b.no, .int .i64 b.fe, .int .i64 b.ki, .slice b.A b.n b.c, .slice b.A' b.n' b.c']] w fun e w' => e = .returned (.bool (sameT a b)) ∧ Below w.heap.size w w' := by
  have Ha := Lib.hid (ha.up (below_two w (.cells #[.int .u8 (a.d.x0 : Int), .int .u8 (a.d.x1 : Int), .int .u8 (a.d.x2 : Int), .int .u8 (a.d.x3 : Int), .int .u8 (a.d.x4 : Int), .int .u8 (a.d.x5 : Int), .int .u8 (a.d.x6 : Int), .int .u8 (a.d.x7 : Int), .int .i64 a.no, .int .i64 a.fe, .int .i64 a.ki, .slice a.A a.n a.c, .slice a.A' a.n' a.c'] 32) (.cells #[.int .u8 (b.d.x0 : Int), .int .u8 (b.d.x1 : Int), .int .u8 (b.d.x2 : Int), .int .u8 (b.d.x3 : Int), .int .u8 (b.d.x4 : Int), .int .u8 (b.d.x5 : Int), .int .u8 (b.d.x6 : Int), .int .u8 (b.d.x7 : Int), .int .i64 b.no, .int .i64 b.fe, .int .i64 b.ki, .slice b.A b.n b.c, .slice b.A' b.n' b.c'] 32)))
  have Hb := Lib.hid (hb.up (below_two w (.cells #[.int .u8 (a.d.x0 : Int), .int .u8 (a.d.x1 : Int), .int .u8 (a.d.x2 : Int), .int .u8 (a.d.x3 : Int), .int .u8 (a.d.x4 : Int), .int .u8 (a.d.x5 : Int), .int .u8 (a.d.x6 : Int), .int .u8 (a.d.x7 : Int), .int .i64 a.no, .int .i64 a.fe, .int .i64 a.ki, .slice a.A a.n a.c, .slice a.A' a.n' a.c'] 32) (.cells #[.int .u8 (b.d.x0 : Int), .int .u8 (b.d.x1 : Int), .int .u8 (b.d.x2 : Int), .int .u8 (b.d.x3 : Int), .int .u8 (b.d.x4 : Int), .int .u8 (b.d.x5 : Int), .int .u8 (b.d.x6 : Int), .int .u8 (b.d.x7 : Int), .int .i64 b.no, .int .i64 b.fe, .int .i64 b.ki, .slice b.A b.n b.c, .slice b.A' b.n' b.c'] 32)))
  have HA := Lib.hid (block_alloc (heap_alloc_new w (.cells #[.int .u8 (a.d.x0 : Int), .int .u8 (a.d.x1 : Int), .int .u8 (a.d.x2 : Int), .int .u8 (a.d.x3 : Int), .int .u8 (a.d.x4 : Int), .int .u8 (a.d.x5 : Int), .int .u8 (a.d.x6 : Int), .int .u8 (a.d.x7 : Int), .int .i64 a.no, .int .i64 a.fe, .int .i64 a.ki, .slice a.A a.n a.c, .slice a.A' a.n' a.c'] 32)) (.cells #[.int .u8 (b.d.x0 : Int), .int .u8 (b.d.x1 : Int), .int .u8 (b.d.x2 : Int), .int .u8 (b.d.x3 : Int), .int .u8 (b.d.x4 : Int), .int .u8 (b.d.x5 : Int), .int .u8 (b.d.x6 : Int), .int .u8 (b.d.x7 : Int), .int .i64 b.no, .int .i64 b.fe, .int .i64 b.ki, .slice b.A b.n b.c, .slice b.A' b.n' b.c'] 32))
  have HB : Hid (((w.alloc (.cells #[.int .u8 (a.d.x0 : Int), .int .u8 (a.d.x1 : Int), .int .u8 (a.d.x2 : Int), .int .u8 (a.d.x3 : Int), .int .u8 (a.d.x4 : Int), .int .u8 (a.d.x5 : Int), .int .u8 (a.d.x6 : Int), .int .u8 (a.d.x7 : Int), .int .i64 a.no, .int .i64 a.fe, .int .i64 a.ki, .slice a.A a.n a.c, .slice a.A' a.n' a.c'] 32)).alloc (.cells #[.int .u8 (b.d.x0 : Int), .int .u8 (b.d.x1 : Int), .int .u8 (b.d.x2 : Int), .int .u8 (b.d.x3 : Int), .int .u8 (b.d.x4 : Int), .int .u8 (b.d.x5 : Int), .int .u8 (b.d.x6 : Int), .int .u8 (b.d.x7 : Int), .int .i64 b.no, .int .i64 b.fe, .int .i64 b.ki, .slice b.A b.n b.c, .slice b.A' b.n' b.c'] 32)).heap[w.heap.size + 1]? = some (.cells #[.int .u8 (b.d.x0 : Int), .int .u8 (b.d.x1 : Int), .int .u8 (b.d.x2 : Int), .int .u8 (b.d.x3 : Int), .int .u8 (b.d.x4 : Int), .int .u8 (b.d.x5 : Int), .int .u8 (b.d.x6 : Int), .int .u8 (b.d.x7 : Int), .int .i64 b.no, .int .i64 b.fe, .int .i64 b.ki, .slice b.A b.n b.c, .slice b.A' b.n' b.c'] 32 (0, 0))) := by
    have := heap_alloc_new (w.alloc (.cells #[.int .u8 (a.d.x0 : Int), .int .u8 (a.d.x1 : Int), .int .u8 (a.d.x2 : Int), .int .u8 (a.d.x3 : Int), .int .u8 (a.d.x4 : Int), .int .u8 (a.d.x5 : Int), .int .u8 (a.d.x6 : Int), .int .u8 (a.d.x7 : Int), .int .i64 a.no, .int .i64 a.fe, .int .i64 a.ki, .slice a.A a.n a.c, .slice a.A' a.n' a.c'] 32)) (.cells #[.int .u8 (b.d.x0 : Int), .int .u8 (b.d.x1 : Int), .int .u8 (b.d.x2 : Int), .int .u8 (b.d.x3 : Int), .int .u8 (b.d.x4 : Int), .int .u8 (b.d.x5 : Int), .int .u8 (b.d.x6 : Int), .int .u8 (b.d.x7 : Int), .int .i64 b.no, .int .i64 b.fe, .int .i64 b.ki, .slice b.A b.n b.c, .slice b.A' b.n' b.c'] 32)
    rw [World.size_alloc] at this; exact this
  clear ha hb
  have heq := eql_dig
  by_cases q : eqI [(a.d.x0 : Int), (a.d.x1 : Int), (a.d.x2 : Int), (a.d.x3 : Int), (a.d.x4 : Int), (a.d.x5 : Int), (a.d.x6 : Int), (a.d.x7 : Int)] [(b.d.x0 : Int), (b.d.x1 : Int), (b.d.x2 : Int), (b.d.x3 : Int), (b.d.x4 : Int), (b.d.x5 : Int), (b.d.x6 : Int), (b.d.x7 : Int)] = false
  ·
    have Hr : Hid (sameT a b = false) := by show _ = _; simp only [sameT, q]; simp
    go_enter Tryz.func7, Tryz.ntmps7
    go_wp2
    go_ret
    exact ⟨ret_bool Hr.out.symm, below_two _ _ _⟩
  have q1 : eqI [(a.d.x0 : Int), (a.d.x1 : Int), (a.d.x2 : Int), (a.d.x3 : Int), (a.d.x4 : Int), (a.d.x5 : Int), (a.d.x6 : Int), (a.d.x7 : Int)] [(b.d.x0 : Int), (b.d.x1 : Int), (b.d.x2 : Int), (b.d.x3 : Int), (b.d.x4 : Int), (b.d.x5 : Int), (b.d.x6 : Int), (b.d.x7 : Int)] = true := by simpa using q
  clear q
  by_cases q : (a.no == b.no) = false
  ·
    have Hr : Hid (sameT a b = false) := by show _ = _; simp only [sameT, q]; simp
    go_enter Tryz.func7, Tryz.ntmps7
    go_wp2
    go_ret
    exact ⟨ret_bool Hr.out.symm, below_two _ _ _⟩
  have q2 : (a.no == b.no) = true := by simpa using q
  clear q
  by_cases q : (a.fe == b.fe) = false
  ·
    have Hr : Hid (sameT a b = false) := by show _ = _; simp only [sameT, q]; simp
    go_enter Tryz.func7, Tryz.ntmps7
    go_wp2
    go_ret
    exact ⟨ret_bool Hr.out.symm, below_two _ _ _⟩
  have q3 : (a.fe == b.fe) = true := by simpa using q
  clear q
  by_cases q : (a.ki == b.ki) = false
  ·
    have Hr : Hid (sameT a b = false) := by show _ = _; simp only [sameT, q]; simp
    go_enter Tryz.func7, Tryz.ntmps7
    go_wp2
    go_ret
    exact ⟨ret_bool Hr.out.symm, below_two _ _ _⟩
  have q4 : (a.ki == b.ki) = true := by simpa using q
  clear q
  have Hr : Hid (sameT a b = (sameB a.bo b.bo && sameB a.si b.si)) := by show _ = _; simp only [sameT, q1, q2, q3, q4]; simp
  go_enter Tryz.func7, Tryz.ntmps7
  go_wp2_with fail
  refine (equal_any a.A b.A a.n a.c b.n b.c a.bo b.bo _ Ha.out.r1 Hb.out.r1 Ha.out.b1 Hb.out.b1).mono ?_
  rintro e w' ⟨rfl, rfl⟩
  cases q5 : sameB a.bo b.bo with
  | false =>
    rw [q5] at Hr
    go_wp2
    go_ret
    exact ⟨ret_bool Hr.out.symm, below_two _ _ _⟩
  | true =>
    rw [q5] at Hr
    go_wp2_with fail
    refine (equal_any a.A' b.A' a.n' a.c' b.n' b.c' a.si b.si _ Ha.out.r2 Hb.out.r2 Ha.out.b2 Hb.out.b2).mono ?_
    rintro e w' ⟨rfl, rfl⟩
    go_wp2
    go_ret
    exact ⟨ret_bool (by rw [Hr.out]; rfl), below_two _ _ _⟩
end Go.Proofs.YthjpaclcoipocaaGreat
