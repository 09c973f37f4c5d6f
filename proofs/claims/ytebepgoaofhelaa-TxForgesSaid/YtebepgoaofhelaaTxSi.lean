/- The walk of TxSigns: what is signed verifies, by whom it is from. Condition: what is handed in can be read. -/
import Derived.Test.YtebepgoaofhelaaTxSg
import Derived.Test.YtebepgoaofhelaaTxSm
namespace Go.Proofs.Ytebepgoaofhelaa
open Go.RowKit Go.Lib


set_option maxRecDepth 100000 in
theorem setKeyR {w : World} {b : Nat} {t : TxV} (h : BoxR t w b) (k : D8) : BoxR (t.withKey k) (((((((((w.setCell ⟨b, 0, none⟩ (.int .u8 (k.x0 : Int))).setCell ⟨b, 1, none⟩ (.int .u8 (k.x1 : Int))).setCell ⟨b, 2, none⟩ (.int .u8 (k.x2 : Int))).setCell ⟨b, 3, none⟩ (.int .u8 (k.x3 : Int))).setCell ⟨b, 4, none⟩ (.int .u8 (k.x4 : Int))).setCell ⟨b, 5, none⟩ (.int .u8 (k.x5 : Int))).setCell ⟨b, 6, none⟩ (.int .u8 (k.x6 : Int))).setCell ⟨b, 7, none⟩ (.int .u8 (k.x7 : Int)))) b ∧ w.grownBy (((((((((w.setCell ⟨b, 0, none⟩ (.int .u8 (k.x0 : Int))).setCell ⟨b, 1, none⟩ (.int .u8 (k.x1 : Int))).setCell ⟨b, 2, none⟩ (.int .u8 (k.x2 : Int))).setCell ⟨b, 3, none⟩ (.int .u8 (k.x3 : Int))).setCell ⟨b, 4, none⟩ (.int .u8 (k.x4 : Int))).setCell ⟨b, 5, none⟩ (.int .u8 (k.x5 : Int))).setCell ⟨b, 6, none⟩ (.int .u8 (k.x6 : Int))).setCell ⟨b, 7, none⟩ (.int .u8 (k.x7 : Int)))) (some b) := by
  refine ⟨?_, (((((((grown_set1 w b 0 _).trans (grown_set1 _ b 1 _)).trans (grown_set1 _ b 2 _)).trans (grown_set1 _ b 3 _)).trans (grown_set1 _ b 4 _)).trans (grown_set1 _ b 5 _)).trans (grown_set1 _ b 6 _)).trans (grown_set1 _ b 7 _)⟩
  have h1 := Joins.block_setCell (i := 0) h (.int .u8 (k.x0 : Int))
  have h2 := Joins.block_setCell (i := 1) h1 (.int .u8 (k.x1 : Int))
  have h3 := Joins.block_setCell (i := 2) h2 (.int .u8 (k.x2 : Int))
  have h4 := Joins.block_setCell (i := 3) h3 (.int .u8 (k.x3 : Int))
  have h5 := Joins.block_setCell (i := 4) h4 (.int .u8 (k.x4 : Int))
  have h6 := Joins.block_setCell (i := 5) h5 (.int .u8 (k.x5 : Int))
  have h7 := Joins.block_setCell (i := 6) h6 (.int .u8 (k.x6 : Int))
  have h8 := Joins.block_setCell (i := 7) h7 (.int .u8 (k.x7 : Int))
  unfold BoxR TxV.withKey
  simpa using h8
theorem setSigR {w : World} {b : Nat} {t : TxV} (h : BoxR t w b) (A : Option Addr) (n c : Nat) (s : List Nat) : BoxR (t.withSig A n c s) (w.setCell ⟨b, 12, none⟩ (.slice A n c)) b ∧ w.grownBy (w.setCell ⟨b, 12, none⟩ (.slice A n c)) (some b) := by
  refine ⟨?_, grown_set1 w b 12 _⟩
  have h1 := Joins.block_setCell (i := 12) h (.slice A n c)
  unfold BoxR TxV.withSig
  simpa using h1
set_option maxRecDepth 100000 in
theorem Kept.dbox {w w' : World} {B bk mb b : Nat} {L : List En} {d : D8} (h : Kept w w' bk mb) (hB : BookAt w B bk mb L) (hb : DBox d 22 w b) : DBox d 22 w' b := by
  obtain ⟨A, m, c, h1, _⟩ := hB.book
  refine h.typed b _ _ _ hb (by decide) ?_
  rintro rfl
  have hb' : w.heap[b]? = some (.cells #[.int .u8 (d.x0 : Int), .int .u8 (d.x1 : Int), .int .u8 (d.x2 : Int), .int .u8 (d.x3 : Int), .int .u8 (d.x4 : Int), .int .u8 (d.x5 : Int), .int .u8 (d.x6 : Int), .int .u8 (d.x7 : Int)] 22 (0, 0)) := hb
  rw [hb'] at h1
  injection h1 with e
  injection e with _ e
  exact absurd e (by decide)
set_option maxRecDepth 100000 in
theorem checkT_sig (no fe ki : Int) (bo : List Nat) (q : Nat) : checkT no fe ki bo (sigL q) = checkT no fe ki bo [] := by
  have : inT no fe ki bo.length (sigL q).length = inT no fe ki bo.length 0 := by
    have h1 : upB (((sigL q).length : Nat) : Int) 1024 = true := by rw [show (sigL q).length = 2 from rfl]; decide
    have h2 : upB ((0 : Nat) : Int) 1024 = true := by decide
    unfold inT
    rw [h1]
    rfl
  unfold checkT
  rw [this]
  rfl
theorem TxV.At.owned {t : TxV} {w w' : World} (h : t.At w) (ho : t.Owns w') : t.At w' := ⟨h.ok, Rd.of_own ho.1, Rd.of_own ho.2, h.c1, h.c2, h.b1, h.b2, h.m1, h.m2⟩
theorem exec_bin {P : Program} {o : Oper} {ev : Operand → Value} {op : BinOp} {t t' : TypeId} {x y : Operand} {w : World} {V W R : Value} (ho : o.op = .binOp op t x y t') (hx : ev x = V) (hy : ev y = W) (hg : (eqGuard op t x y V W).run P w = .ok () w) (hb : (binOp op t V W).run P w = .ok R w) : (execOp ev o).run P w = .ok (.value R) w := by
  simp [execOp, ho, hx, hy, hg, hb, Result.andThen]
theorem loadR {t : TxV} {w : World} {b : Nat} (h : w.heap[b]? = some (.cells #[.int .u8 (t.d.x0 : Int), .int .u8 (t.d.x1 : Int), .int .u8 (t.d.x2 : Int), .int .u8 (t.d.x3 : Int), .int .u8 (t.d.x4 : Int), .int .u8 (t.d.x5 : Int), .int .u8 (t.d.x6 : Int), .int .u8 (t.d.x7 : Int), .int .i64 t.no, .int .i64 t.fe, .int .i64 t.ki, .slice t.A t.n t.c, .slice t.A' t.n' t.c'] 34 (0, 0))) : (Instr.loadAt 34 (.pointer (some ⟨b, 0, none⟩))).run Try.prog w = .ok (.agg #[.int .u8 (t.d.x0 : Int), .int .u8 (t.d.x1 : Int), .int .u8 (t.d.x2 : Int), .int .u8 (t.d.x3 : Int), .int .u8 (t.d.x4 : Int), .int .u8 (t.d.x5 : Int), .int .u8 (t.d.x6 : Int), .int .u8 (t.d.x7 : Int), .int .i64 t.no, .int .i64 t.fe, .int .i64 t.ki, .slice t.A t.n t.c, .slice t.A' t.n' t.c']) w := by
  have x := block_cell h
  have x0 := x 0; have x1 := x 1; have x2 := x 2; have x3 := x 3; have x4 := x 4; have x5 := x 5; have x6 := x 6; have x7 := x 7; have x8 := x 8; have x9 := x 9; have x10 := x 10; have x11 := x 11; have x12 := x 12
  simp at x0 x1 x2 x3 x4 x5 x6 x7 x8 x9 x10 x11 x12
  clear x h
  go_simp
theorem loadX {t : TxV} {w : World} {b : Nat} (h : w.heap[b]? = some (.cells #[.int .u8 (t.d.x0 : Int), .int .u8 (t.d.x1 : Int), .int .u8 (t.d.x2 : Int), .int .u8 (t.d.x3 : Int), .int .u8 (t.d.x4 : Int), .int .u8 (t.d.x5 : Int), .int .u8 (t.d.x6 : Int), .int .u8 (t.d.x7 : Int), .int .i64 t.no, .int .i64 t.fe, .int .i64 t.ki, .slice t.A t.n t.c, .slice t.A' t.n' t.c'] 26 (0, 0))) : (Instr.loadAt 26 (.pointer (some ⟨b, 0, none⟩))).run Try.prog w = .ok (.agg #[.int .u8 (t.d.x0 : Int), .int .u8 (t.d.x1 : Int), .int .u8 (t.d.x2 : Int), .int .u8 (t.d.x3 : Int), .int .u8 (t.d.x4 : Int), .int .u8 (t.d.x5 : Int), .int .u8 (t.d.x6 : Int), .int .u8 (t.d.x7 : Int), .int .i64 t.no, .int .i64 t.fe, .int .i64 t.ki, .slice t.A t.n t.c, .slice t.A' t.n' t.c']) w := by
  have x := block_cell h
  have x0 := x 0; have x1 := x 1; have x2 := x 2; have x3 := x 3; have x4 := x 4; have x5 := x 5; have x6 := x 6; have x7 := x 7; have x8 := x 8; have x9 := x 9; have x10 := x 10; have x11 := x 11; have x12 := x 12
  simp at x0 x1 x2 x3 x4 x5 x6 x7 x8 x9 x10 x11 x12
  clear x h
  go_simp
theorem loadD {b12 o12 : Nat} {md : D8} {w : World} (h : w.cell? ⟨b12, o12 + 0, none⟩ = some (.int .u8 (md.x0 : Int)) ∧ w.cell? ⟨b12, o12 + 1, none⟩ = some (.int .u8 (md.x1 : Int)) ∧ w.cell? ⟨b12, o12 + 2, none⟩ = some (.int .u8 (md.x2 : Int)) ∧ w.cell? ⟨b12, o12 + 3, none⟩ = some (.int .u8 (md.x3 : Int)) ∧ w.cell? ⟨b12, o12 + 4, none⟩ = some (.int .u8 (md.x4 : Int)) ∧ w.cell? ⟨b12, o12 + 5, none⟩ = some (.int .u8 (md.x5 : Int)) ∧ w.cell? ⟨b12, o12 + 6, none⟩ = some (.int .u8 (md.x6 : Int)) ∧ w.cell? ⟨b12, o12 + 7, none⟩ = some (.int .u8 (md.x7 : Int))) : (Instr.loadAt 23 (.pointer (some ⟨b12, o12, none⟩))).run Try.prog w = .ok (.agg #[.int .u8 (md.x0 : Int), .int .u8 (md.x1 : Int), .int .u8 (md.x2 : Int), .int .u8 (md.x3 : Int), .int .u8 (md.x4 : Int), .int .u8 (md.x5 : Int), .int .u8 (md.x6 : Int), .int .u8 (md.x7 : Int)]) w := by
  obtain ⟨x0, x1, x2, x3, x4, x5, x6, x7⟩ := h
  simp only [Nat.add_zero] at x0
  go_simp
set_option maxRecDepth 100000 in
set_option maxHeartbeats 8000000 in
theorem signs_any (t : TxV) (key : D8) (w : World) (h : t.In w w.heap.size) (hkey : key.ok) :
    Calls Try.prog 9 #[.agg #[.int .u8 (t.d.x0 : Int), .int .u8 (t.d.x1 : Int), .int .u8 (t.d.x2 : Int), .int .u8 (t.d.x3 : Int), .int .u8 (t.d.x4 : Int), .int .u8 (t.d.x5 : Int), .int .u8 (t.d.x6 : Int), .int .u8 (t.d.x7 : Int), .int .i64 t.no, .int .i64 t.fe, .int .i64 t.ki, .slice t.A t.n t.c, .slice t.A' t.n' t.c'], .agg #[.int .u8 (key.x0 : Int), .int .u8 (key.x1 : Int), .int .u8 (key.x2 : Int), .int .u8 (key.x3 : Int), .int .u8 (key.x4 : Int), .int .u8 (key.x5 : Int), .int .u8 (key.x6 : Int), .int .u8 (key.x7 : Int)]] w fun e w' => e = .returned (.bool true) ∧ Below w.heap.size w w' := by
  have H := Lib.hid (h.keep (below_two w (.cells #[.int .u8 (t.d.x0 : Int), .int .u8 (t.d.x1 : Int), .int .u8 (t.d.x2 : Int), .int .u8 (t.d.x3 : Int), .int .u8 (t.d.x4 : Int), .int .u8 (t.d.x5 : Int), .int .u8 (t.d.x6 : Int), .int .u8 (t.d.x7 : Int), .int .i64 t.no, .int .i64 t.fe, .int .i64 t.ki, .slice t.A t.n t.c, .slice t.A' t.n' t.c'] 26) (.cells #[.int .u8 (key.x0 : Int), .int .u8 (key.x1 : Int), .int .u8 (key.x2 : Int), .int .u8 (key.x3 : Int), .int .u8 (key.x4 : Int), .int .u8 (key.x5 : Int), .int .u8 (key.x6 : Int), .int .u8 (key.x7 : Int)] 22)) (Nat.le_refl _))
  have HB := Lib.hid (show Box t ((w.alloc (.cells #[.int .u8 (t.d.x0 : Int), .int .u8 (t.d.x1 : Int), .int .u8 (t.d.x2 : Int), .int .u8 (t.d.x3 : Int), .int .u8 (t.d.x4 : Int), .int .u8 (t.d.x5 : Int), .int .u8 (t.d.x6 : Int), .int .u8 (t.d.x7 : Int), .int .i64 t.no, .int .i64 t.fe, .int .i64 t.ki, .slice t.A t.n t.c, .slice t.A' t.n' t.c'] 26)).alloc (.cells #[.int .u8 (key.x0 : Int), .int .u8 (key.x1 : Int), .int .u8 (key.x2 : Int), .int .u8 (key.x3 : Int), .int .u8 (key.x4 : Int), .int .u8 (key.x5 : Int), .int .u8 (key.x6 : Int), .int .u8 (key.x7 : Int)] 22)) w.heap.size from block_alloc (heap_alloc_new w _) _)
  have HD : Hid (DBox key 22 ((w.alloc (.cells #[.int .u8 (t.d.x0 : Int), .int .u8 (t.d.x1 : Int), .int .u8 (t.d.x2 : Int), .int .u8 (t.d.x3 : Int), .int .u8 (t.d.x4 : Int), .int .u8 (t.d.x5 : Int), .int .u8 (t.d.x6 : Int), .int .u8 (t.d.x7 : Int), .int .i64 t.no, .int .i64 t.fe, .int .i64 t.ki, .slice t.A t.n t.c, .slice t.A' t.n' t.c'] 26)).alloc (.cells #[.int .u8 (key.x0 : Int), .int .u8 (key.x1 : Int), .int .u8 (key.x2 : Int), .int .u8 (key.x3 : Int), .int .u8 (key.x4 : Int), .int .u8 (key.x5 : Int), .int .u8 (key.x6 : Int), .int .u8 (key.x7 : Int)] 22)) (w.heap.size + 1)) := by
    have := heap_alloc_new (w.alloc (.cells #[.int .u8 (t.d.x0 : Int), .int .u8 (t.d.x1 : Int), .int .u8 (t.d.x2 : Int), .int .u8 (t.d.x3 : Int), .int .u8 (t.d.x4 : Int), .int .u8 (t.d.x5 : Int), .int .u8 (t.d.x6 : Int), .int .u8 (t.d.x7 : Int), .int .i64 t.no, .int .i64 t.fe, .int .i64 t.ki, .slice t.A t.n t.c, .slice t.A' t.n' t.c'] 26)) (.cells #[.int .u8 (key.x0 : Int), .int .u8 (key.x1 : Int), .int .u8 (key.x2 : Int), .int .u8 (key.x3 : Int), .int .u8 (key.x4 : Int), .int .u8 (key.x5 : Int), .int .u8 (key.x6 : Int), .int .u8 (key.x7 : Int)] 22)
    rw [World.size_alloc] at this; exact this
  have Hk := Lib.hid hkey
  clear h hkey
  go_enter Try.func9, Try.ntmps9
  go_wp2_with fail
  refine (cut_any t _ w.heap.size (by simp; omega) H.out).mono ?_
  rintro e w1 ⟨t', rfl, hcut, hat, hb1⟩
  have HB1 := Lib.hid (HB.out.below hb1)
  have HD1 := Lib.hid (HD.out.below hb1)
  have Hat1 := Lib.hid hat
  have Hw1 := Lib.hid ((below_two w _ _).trans (hb1.mono (by simp; omega)))
  clear hb1 hat hcut
  obtain ⟨y0, y1, y2, y3, y4, y5, y6, y7, y8, y9, y10, y11, y12⟩ := HB1.out.all
  have yf := block_free HB1.out
  obtain ⟨s1, s2⟩ := set13 (t' := t') HB1.out
  have S1 := Lib.hid s1; have S2 := Lib.hid s2
  clear s1 s2
  go_wp2_with fail
  generalize (((((((((((((w1.setCell ⟨w.heap.size, 0, none⟩ (.int .u8 (t'.d.x0 : Int))).setCell ⟨w.heap.size, 1, none⟩ (.int .u8 (t'.d.x1 : Int))).setCell ⟨w.heap.size, 2, none⟩ (.int .u8 (t'.d.x2 : Int))).setCell ⟨w.heap.size, 3, none⟩ (.int .u8 (t'.d.x3 : Int))).setCell ⟨w.heap.size, 4, none⟩ (.int .u8 (t'.d.x4 : Int))).setCell ⟨w.heap.size, 5, none⟩ (.int .u8 (t'.d.x5 : Int))).setCell ⟨w.heap.size, 6, none⟩ (.int .u8 (t'.d.x6 : Int))).setCell ⟨w.heap.size, 7, none⟩ (.int .u8 (t'.d.x7 : Int))).setCell ⟨w.heap.size, 8, none⟩ (.int .i64 t'.no)).setCell ⟨w.heap.size, 9, none⟩ (.int .i64 t'.fe)).setCell ⟨w.heap.size, 10, none⟩ (.int .i64 t'.ki)).setCell ⟨w.heap.size, 11, none⟩ (.slice t'.A t'.n t'.c)).setCell ⟨w.heap.size, 12, none⟩ (.slice t'.A' t'.n' t'.c')) = w2 at *
  have Hw2 := Lib.hid (below_gr Hw1.out S2.out (Nat.le_refl _))
  have hlt1 := block_lt HD1.out
  have HD2 := Lib.hid (show DBox key 22 w2 (w.heap.size + 1) from (S2.out.block _ hlt1 (by simp)).trans HD1.out)
  have HatB := Lib.hid (Hat1.out.grown S2.out Hw1.out.size (Nat.le_refl _))
  clear y0 y1 y2 y3 y4 y5 y6 y7 y8 y9 y10 y11 y12 yf HB1 HD1 Hat1 Hw1 S2
  refine (newBook_any w2).mono ?_
  rintro e w3 ⟨rfl, hB, hb⟩
  have HBk3 := Lib.hid hB; have HT3 := Lib.hid (S1.out.below hb); have HD3 := Lib.hid (HD2.out.below hb); have Hat3 := Lib.hid (HatB.out.keep (hb.mono Hw2.out.size) (Nat.le_refl _)); have Hw3 := Lib.hid (Hw2.out.trans (hb.mono Hw2.out.size))
  have hz2 : w.heap.size ≤ w2.heap.size := Hw2.out.size
  clear hB hb S1 HD2 HatB Hw2
  go_upto_region 5 with fail
  go_cut [6, 7] (fun s6 s7 wx => ∃ (b6 : Nat) (o : TxV) (err : Int) (L' : List En), s6 = .pointer (some ⟨b6, 0, none⟩) ∧ s7 = .int .i64 err ∧ Hid (SgOut t' key [] o err L') ∧ Hid (o.At wx) ∧ Hid (Box o wx b6) ∧ Hid (BookAt wx (w2.heap.size + 2) (w2.heap.size + 1) w2.heap.size L') ∧ Hid (Box t' wx w.heap.size) ∧ Hid (DBox key 22 wx (w.heap.size + 1)) ∧ Hid (Below w.heap.size w wx) ∧ Hid (t'.AtB wx w.heap.size))
  case first =>
    have hS3 : w3.heap[w.heap.size]? = some (.cells #[.int .u8 (t'.d.x0 : Int), .int .u8 (t'.d.x1 : Int), .int .u8 (t'.d.x2 : Int), .int .u8 (t'.d.x3 : Int), .int .u8 (t'.d.x4 : Int), .int .u8 (t'.d.x5 : Int), .int .u8 (t'.d.x6 : Int), .int .u8 (t'.d.x7 : Int), .int .i64 t'.no, .int .i64 t'.fe, .int .i64 t'.ki, .slice t'.A t'.n t'.c, .slice t'.A' t'.n' t'.c'] 26 (0, 0)) ∧ w3.heap[w.heap.size + 1]? = some (.cells #[.int .u8 (key.x0 : Int), .int .u8 (key.x1 : Int), .int .u8 (key.x2 : Int), .int .u8 (key.x3 : Int), .int .u8 (key.x4 : Int), .int .u8 (key.x5 : Int), .int .u8 (key.x6 : Int), .int .u8 (key.x7 : Int)] 22 (0, 0)) := ⟨HT3.out, HD3.out⟩
    refine wp_region_held_drew (S := fun w' => w'.heap[w.heap.size]? = some (.cells #[.int .u8 (t'.d.x0 : Int), .int .u8 (t'.d.x1 : Int), .int .u8 (t'.d.x2 : Int), .int .u8 (t'.d.x3 : Int), .int .u8 (t'.d.x4 : Int), .int .u8 (t'.d.x5 : Int), .int .u8 (t'.d.x6 : Int), .int .u8 (t'.d.x7 : Int), .int .i64 t'.no, .int .i64 t'.fe, .int .i64 t'.ki, .slice t'.A t'.n t'.c, .slice t'.A' t'.n' t'.c'] 26 (0, 0)) ∧ w'.heap[w.heap.size + 1]? = some (.cells #[.int .u8 (key.x0 : Int), .int .u8 (key.x1 : Int), .int .u8 (key.x2 : Int), .int .u8 (key.x3 : Int), .int .u8 (key.x4 : Int), .int .u8 (key.x5 : Int), .int .u8 (key.x6 : Int), .int .u8 (key.x7 : Int)] 22 (0, 0))) (by kernel_rfl) hS3 (fun hHeld => ?_)
    refine takeH 0 (some 19) (v := ?_) rfl (by kernel_rfl) (by kernel_rfl) (by kernel_rfl) (by kernel_rfl) (fun _ _ _ h => h) (Or.inl ⟨by kernel_rfl, ?hy⟩) (by assumption) ?_
    case hy =>
      intro w' hSw
      try dsimp only at hSw
      have x := block_cell hSw.1
      have x0 := x 0; have x1 := x 1; have x2 := x 2; have x3 := x 3; have x4 := x 4; have x5 := x 5; have x6 := x 6; have x7 := x 7; have x8 := x 8; have x9 := x 9; have x10 := x 10; have x11 := x 11; have x12 := x 12
      simp at x0 x1 x2 x3 x4 x5 x6 x7 x8 x9 x10 x11 x12
      clear x hSw
      first
        | (go_simp; done)
        | (go_simp; with_reducible rfl)
    simp only [Act.put, List.setIfInBounds_toArray, List.set_cons_zero, List.set_cons_succ]
    refine takeH 1 (some 20) (v := ?_) rfl (by kernel_rfl) (by kernel_rfl) (by kernel_rfl) (by kernel_rfl) (fun _ _ _ h => h) (Or.inl ⟨by kernel_rfl, ?hy⟩) (by assumption) ?_
    case hy =>
      intro w' hSw
      try dsimp only at hSw
      first
        | (go_simp; done)
        | (go_simp; with_reducible rfl)
    simp only [Act.put, List.setIfInBounds_toArray, List.set_cons_zero, List.set_cons_succ]
    refine takeH 2 (some 21) (v := ?_) rfl (by kernel_rfl) (by kernel_rfl) (by kernel_rfl) (by kernel_rfl) (fun _ _ _ h => h) (Or.inl ⟨by kernel_rfl, ?hy⟩) (by assumption) ?_
    case hy =>
      intro w' hSw
      try dsimp only at hSw
      have x := block_cell hSw.2
      have x0 := x 0; have x1 := x 1; have x2 := x 2; have x3 := x 3; have x4 := x 4; have x5 := x 5; have x6 := x 6; have x7 := x 7
      simp at x0 x1 x2 x3 x4 x5 x6 x7
      clear x hSw
      first
        | (go_simp; done)
        | (go_simp; with_reducible rfl)
    simp only [Act.put, List.setIfInBounds_toArray, List.set_cons_zero, List.set_cons_succ]
    clear hS3
    have hq := (Below.refl w3.heap.size w3).drew
    have HBk0 := Lib.hid (HBk3.out.below hq); have HT0 := Lib.hid (HT3.out.below hq); have HD0 := Lib.hid (HD3.out.below hq); have Hw0 := Lib.hid (Hw3.out.trans (hq.mono Hw3.out.size)); have Hat0 := Lib.hid (Hat3.out.keep (hq.mono Hw3.out.size) (Nat.le_refl _))
    clear hq HBk3 HT3 HD3 Hw3 Hat3
    generalize w3.drew = u0 at *
    refine wpAnyH_ready (rs := [3, 8]) (by kernel_rfl) (by simp) ?_
    refine AllReadyH.cons rfl (fun K hK => ?_) (AllReadyH.cons rfl (fun K hK => ?_) AllReadyH.nil)
    ·
      rw [if_pos (by kernel_rfl)]
      go_simp
      refine (signer_any key _ u0).mono ?_
      rintro e u1 ⟨rfl, hb⟩
      have HBk1 := Lib.hid (HBk0.out.below hb); have HT1 := Lib.hid (HT0.out.below hb); have HD1 := Lib.hid (HD0.out.below hb); have Hw1 := Lib.hid (Hw0.out.trans (hb.mono Hw0.out.size)); have Hat1 := Lib.hid (Hat0.out.keep (hb.mono Hw0.out.size) (Nat.le_refl _))
      try have HZ1 := Lib.hid (HZ0.out.below hb)
      refine hK.out _ _ ⟨HT1.out, HD1.out⟩ (fun _ => ?_)
      clear hK K hb
      refine wpAnyH_ready (rs := [4, 8]) (by kernel_rfl) (by simp) ?_
      refine AllReadyH.cons rfl (fun K hK => ?_) (AllReadyH.cons rfl (fun K hK => ?_) AllReadyH.nil)
      ·
        rw [if_pos (by kernel_rfl)]
        go_simp
        refine (txsign_any t' key _ _ _ [] u1 (Hat1.out.at Hw1.out.size) HBk1.out Hk.out (by decide)).mono ?_
        intro e u2 hg
        obtain ⟨o, err, L', rfl, hso, hoa, hoo, hbk, hkp⟩ := hg.form HBk1.out
        have hbw := hkp.below (B := w.heap.size) (by omega) (by omega)
        have HT2 := Lib.hid (hkp.boxT HBk1.out HT1.out); have HD2 := Lib.hid (hkp.dbox HBk1.out HD1.out); have HBk2 := Lib.hid hbk; have HO2 := Lib.hid hoo; have HA := Lib.hid hoa; have HSo := Lib.hid hso
        have Hw2 := Lib.hid (Hw1.out.trans hbw); have Hat2 := Lib.hid (Hat1.out.keep hbw (Nat.le_refl _))
        try have HZ2 := Lib.hid (hkp.boxT HBk1.out HZ1.out)
        refine hK.out _ _ ⟨HT2.out, HD2.out⟩ (fun _ => ?_)
        clear hK K hg hso hoa hoo hbk hkp hbw
        refine takeH 5 (some 18) (v := ?_) rfl (by kernel_rfl) (by kernel_rfl) (by kernel_rfl) (by kernel_rfl) (fun _ _ _ h => h) (Or.inl ⟨by kernel_rfl, ?hy⟩) (by assumption) ?_
        case hy =>
          intro w' hSw
          try dsimp only at hSw
          first
            | (go_simp; done)
            | (go_simp; with_reducible rfl)
        simp only [Act.put, List.setIfInBounds_toArray, List.set_cons_zero, List.set_cons_succ]
        refine takeH 6 (some 24) (v := ?_) rfl (by kernel_rfl) (by kernel_rfl) (by kernel_rfl) (by kernel_rfl) (fun _ _ _ h => h) (Or.inl ⟨by kernel_rfl, ?hy⟩) (by assumption) ?_
        case hy =>
          intro w' hSw
          try dsimp only at hSw
          first
            | (go_simp; done)
            | (go_simp; with_reducible rfl)
        simp only [Act.put, List.setIfInBounds_toArray, List.set_cons_zero, List.set_cons_succ]
        refine takeH 7 (some 25) (v := ?_) rfl (by kernel_rfl) (by kernel_rfl) (by kernel_rfl) (by kernel_rfl) (fun _ _ _ h => h) (Or.inl ⟨by kernel_rfl, ?hy⟩) (by assumption) ?_
        case hy =>
          intro w' hSw
          try dsimp only at hSw
          first
            | (go_simp; done)
            | (go_simp; with_reducible rfl)
        simp only [Act.put, List.setIfInBounds_toArray, List.set_cons_zero, List.set_cons_succ]
        refine wpAnyH_ready (rs := [8]) (by kernel_rfl) (by simp) ?_
        refine AllReadyH.cons rfl (fun K hK => ?_) AllReadyH.nil
        rw [if_pos (by kernel_rfl)]
        go_simp
        have hb := h_one u2 (.cells #[.int .u8 0, .int .u8 0, .int .u8 0, .int .u8 0, .int .u8 0, .int .u8 0, .int .u8 0, .int .u8 0, .int .i64 0, .int .i64 0, .int .i64 0, .slice none 0 0, .slice none 0 0] 26)
        have HZ3 : Hid (Box txZ (u2.alloc (.cells #[.int .u8 0, .int .u8 0, .int .u8 0, .int .u8 0, .int .u8 0, .int .u8 0, .int .u8 0, .int .u8 0, .int .i64 0, .int .i64 0, .int .i64 0, .slice none 0 0, .slice none 0 0] 26)) u2.heap.size) := heap_alloc_new u2 (.cells #[.int .u8 0, .int .u8 0, .int .u8 0, .int .u8 0, .int .u8 0, .int .u8 0, .int .u8 0, .int .u8 0, .int .i64 0, .int .i64 0, .int .i64 0, .slice none 0 0, .slice none 0 0] 26)
        have HBk3 := Lib.hid (HBk2.out.below hb); have HT3 := Lib.hid (HT2.out.below hb); have HD3 := Lib.hid (HD2.out.below hb); have Hw3 := Lib.hid (Hw2.out.trans (hb.mono Hw2.out.size)); have Hat3 := Lib.hid (Hat2.out.keep (hb.mono Hw2.out.size) (Nat.le_refl _))
        try have HO3 := Lib.hid (HO2.out.below hb)
        have hbz : w.heap.size ≤ u2.heap.size := Hw2.out.size
        have hbz1 := block_lt HD2.out
        refine hK.out _ _ ⟨HT3.out, HD3.out⟩ (fun _ => ?_)
        clear hK K hb
        generalize u2.alloc (.cells #[.int .u8 0, .int .u8 0, .int .u8 0, .int .u8 0, .int .u8 0, .int .u8 0, .int .u8 0, .int .u8 0, .int .i64 0, .int .i64 0, .int .i64 0, .slice none 0 0, .slice none 0 0] 26) = u3 at *
        generalize u2.heap.size = bz at *
        refine wpAnyH_ready (rs := [9]) (by kernel_rfl) (by simp) ?_
        refine AllReadyH.cons rfl (fun K hK => ?_) AllReadyH.nil
        obtain ⟨z0, z1, z2, z3, z4, z5, z6, z7, z8, z9, z10, z11, z12⟩ := HZ3.out.all
        have zf := block_free HZ3.out
        rw [if_pos (by kernel_rfl)]
        go_simp
        obtain ⟨s1, hg⟩ := set13 (t' := o) HZ3.out
        have hbw := ((Below.refl u3.heap.size u3).mono Hw3.out.size).grown hg Hw3.out.size (fun q hq => by injection hq with hq; omega)
        have HX4 := Lib.hid s1; have HBk4 := Lib.hid (HBk3.out.box HZ3.out hg); have HO4 := Lib.hid (HO3.out.box HZ3.out hg)
        have HT4 : Hid (Box t' ((((((((((((((u3.setCell ⟨bz, 0, none⟩ (.int .u8 (o.d.x0 : Int))).setCell ⟨bz, 1, none⟩ (.int .u8 (o.d.x1 : Int))).setCell ⟨bz, 2, none⟩ (.int .u8 (o.d.x2 : Int))).setCell ⟨bz, 3, none⟩ (.int .u8 (o.d.x3 : Int))).setCell ⟨bz, 4, none⟩ (.int .u8 (o.d.x4 : Int))).setCell ⟨bz, 5, none⟩ (.int .u8 (o.d.x5 : Int))).setCell ⟨bz, 6, none⟩ (.int .u8 (o.d.x6 : Int))).setCell ⟨bz, 7, none⟩ (.int .u8 (o.d.x7 : Int))).setCell ⟨bz, 8, none⟩ (.int .i64 o.no)).setCell ⟨bz, 9, none⟩ (.int .i64 o.fe)).setCell ⟨bz, 10, none⟩ (.int .i64 o.ki)).setCell ⟨bz, 11, none⟩ (.slice o.A o.n o.c)).setCell ⟨bz, 12, none⟩ (.slice o.A' o.n' o.c'))) w.heap.size) := (hg.block _ (block_lt HT3.out) (by intro e; injection e with e; omega)).trans HT3.out
        have HD4 : Hid (DBox key 22 ((((((((((((((u3.setCell ⟨bz, 0, none⟩ (.int .u8 (o.d.x0 : Int))).setCell ⟨bz, 1, none⟩ (.int .u8 (o.d.x1 : Int))).setCell ⟨bz, 2, none⟩ (.int .u8 (o.d.x2 : Int))).setCell ⟨bz, 3, none⟩ (.int .u8 (o.d.x3 : Int))).setCell ⟨bz, 4, none⟩ (.int .u8 (o.d.x4 : Int))).setCell ⟨bz, 5, none⟩ (.int .u8 (o.d.x5 : Int))).setCell ⟨bz, 6, none⟩ (.int .u8 (o.d.x6 : Int))).setCell ⟨bz, 7, none⟩ (.int .u8 (o.d.x7 : Int))).setCell ⟨bz, 8, none⟩ (.int .i64 o.no)).setCell ⟨bz, 9, none⟩ (.int .i64 o.fe)).setCell ⟨bz, 10, none⟩ (.int .i64 o.ki)).setCell ⟨bz, 11, none⟩ (.slice o.A o.n o.c)).setCell ⟨bz, 12, none⟩ (.slice o.A' o.n' o.c'))) (w.heap.size + 1)) := (hg.block _ (block_lt HD3.out) (by intro e; injection e with e; omega)).trans HD3.out
        have Hw4 := Lib.hid (Hw3.out.trans hbw); have Hat4 := Lib.hid (Hat3.out.keep hbw (Nat.le_refl _))
        refine hK.out _ _ ⟨HT4.out, HD4.out⟩ (fun _ => ?_)
        clear hK K z0 z1 z2 z3 z4 z5 z6 z7 z8 z9 z10 z11 z12 zf s1 hg hbw
        generalize (((((((((((((u3.setCell ⟨bz, 0, none⟩ (.int .u8 (o.d.x0 : Int))).setCell ⟨bz, 1, none⟩ (.int .u8 (o.d.x1 : Int))).setCell ⟨bz, 2, none⟩ (.int .u8 (o.d.x2 : Int))).setCell ⟨bz, 3, none⟩ (.int .u8 (o.d.x3 : Int))).setCell ⟨bz, 4, none⟩ (.int .u8 (o.d.x4 : Int))).setCell ⟨bz, 5, none⟩ (.int .u8 (o.d.x5 : Int))).setCell ⟨bz, 6, none⟩ (.int .u8 (o.d.x6 : Int))).setCell ⟨bz, 7, none⟩ (.int .u8 (o.d.x7 : Int))).setCell ⟨bz, 8, none⟩ (.int .i64 o.no)).setCell ⟨bz, 9, none⟩ (.int .i64 o.fe)).setCell ⟨bz, 10, none⟩ (.int .i64 o.ki)).setCell ⟨bz, 11, none⟩ (.slice o.A o.n o.c)).setCell ⟨bz, 12, none⟩ (.slice o.A' o.n' o.c')) = u4 at *
        refine takeH 10 (some 7) (v := ?_) rfl (by kernel_rfl) (by kernel_rfl) (by kernel_rfl) (by kernel_rfl) (fun _ _ _ h => h) (Or.inl ⟨by kernel_rfl, ?hy⟩) (by assumption) ?_
        case hy =>
          intro w' hSw
          try dsimp only at hSw
          first
            | (go_simp; done)
            | (go_simp; with_reducible rfl)
        simp only [Act.put, List.setIfInBounds_toArray, List.set_cons_zero, List.set_cons_succ]
        refine wpAnyH_done (by kernel_rfl) ?_ _
        go_wp2_with fail
        go_meet
        exact ⟨bz, o, err, L', rfl, rfl, HSo, Lib.hid (HA.out.owned HO4.out), HX4, HBk4, HT4, HD4, Hw4, Hat4⟩
      ·
        rw [if_pos (by kernel_rfl)]
        go_simp
        have hb := h_one u1 (.cells #[.int .u8 0, .int .u8 0, .int .u8 0, .int .u8 0, .int .u8 0, .int .u8 0, .int .u8 0, .int .u8 0, .int .i64 0, .int .i64 0, .int .i64 0, .slice none 0 0, .slice none 0 0] 26)
        have HZ2 : Hid (Box txZ (u1.alloc (.cells #[.int .u8 0, .int .u8 0, .int .u8 0, .int .u8 0, .int .u8 0, .int .u8 0, .int .u8 0, .int .u8 0, .int .i64 0, .int .i64 0, .int .i64 0, .slice none 0 0, .slice none 0 0] 26)) u1.heap.size) := heap_alloc_new u1 (.cells #[.int .u8 0, .int .u8 0, .int .u8 0, .int .u8 0, .int .u8 0, .int .u8 0, .int .u8 0, .int .u8 0, .int .i64 0, .int .i64 0, .int .i64 0, .slice none 0 0, .slice none 0 0] 26)
        have HBk2 := Lib.hid (HBk1.out.below hb); have HT2 := Lib.hid (HT1.out.below hb); have HD2 := Lib.hid (HD1.out.below hb); have Hw2 := Lib.hid (Hw1.out.trans (hb.mono Hw1.out.size)); have Hat2 := Lib.hid (Hat1.out.keep (hb.mono Hw1.out.size) (Nat.le_refl _))
        try have HO2 := Lib.hid (HO1.out.below hb)
        have hbz : w.heap.size ≤ u1.heap.size := Hw1.out.size
        have hbz1 := block_lt HD1.out
        refine hK.out _ _ ⟨HT2.out, HD2.out⟩ (fun _ => ?_)
        clear hK K hb
        generalize u1.alloc (.cells #[.int .u8 0, .int .u8 0, .int .u8 0, .int .u8 0, .int .u8 0, .int .u8 0, .int .u8 0, .int .u8 0, .int .i64 0, .int .i64 0, .int .i64 0, .slice none 0 0, .slice none 0 0] 26) = u2 at *
        generalize u1.heap.size = bz at *
        refine wpAnyH_ready (rs := [4]) (by kernel_rfl) (by simp) ?_
        refine AllReadyH.cons rfl (fun K hK => ?_) AllReadyH.nil
        rw [if_pos (by kernel_rfl)]
        go_simp
        refine (txsign_any t' key _ _ _ [] u2 (Hat2.out.at Hw2.out.size) HBk2.out Hk.out (by decide)).mono ?_
        intro e u3 hg
        obtain ⟨o, err, L', rfl, hso, hoa, hoo, hbk, hkp⟩ := hg.form HBk2.out
        have hbw := hkp.below (B := w.heap.size) (by omega) (by omega)
        have HT3 := Lib.hid (hkp.boxT HBk2.out HT2.out); have HD3 := Lib.hid (hkp.dbox HBk2.out HD2.out); have HBk3 := Lib.hid hbk; have HO3 := Lib.hid hoo; have HA := Lib.hid hoa; have HSo := Lib.hid hso
        have Hw3 := Lib.hid (Hw2.out.trans hbw); have Hat3 := Lib.hid (Hat2.out.keep hbw (Nat.le_refl _))
        try have HZ3 := Lib.hid (hkp.boxT HBk2.out HZ2.out)
        refine hK.out _ _ ⟨HT3.out, HD3.out⟩ (fun _ => ?_)
        clear hK K hg hso hoa hoo hbk hkp hbw
        refine takeH 5 (some 18) (v := ?_) rfl (by kernel_rfl) (by kernel_rfl) (by kernel_rfl) (by kernel_rfl) (fun _ _ _ h => h) (Or.inl ⟨by kernel_rfl, ?hy⟩) (by assumption) ?_
        case hy =>
          intro w' hSw
          try dsimp only at hSw
          first
            | (go_simp; done)
            | (go_simp; with_reducible rfl)
        simp only [Act.put, List.setIfInBounds_toArray, List.set_cons_zero, List.set_cons_succ]
        refine takeH 6 (some 24) (v := ?_) rfl (by kernel_rfl) (by kernel_rfl) (by kernel_rfl) (by kernel_rfl) (fun _ _ _ h => h) (Or.inl ⟨by kernel_rfl, ?hy⟩) (by assumption) ?_
        case hy =>
          intro w' hSw
          try dsimp only at hSw
          first
            | (go_simp; done)
            | (go_simp; with_reducible rfl)
        simp only [Act.put, List.setIfInBounds_toArray, List.set_cons_zero, List.set_cons_succ]
        refine takeH 7 (some 25) (v := ?_) rfl (by kernel_rfl) (by kernel_rfl) (by kernel_rfl) (by kernel_rfl) (fun _ _ _ h => h) (Or.inl ⟨by kernel_rfl, ?hy⟩) (by assumption) ?_
        case hy =>
          intro w' hSw
          try dsimp only at hSw
          first
            | (go_simp; done)
            | (go_simp; with_reducible rfl)
        simp only [Act.put, List.setIfInBounds_toArray, List.set_cons_zero, List.set_cons_succ]
        refine wpAnyH_ready (rs := [9]) (by kernel_rfl) (by simp) ?_
        refine AllReadyH.cons rfl (fun K hK => ?_) AllReadyH.nil
        obtain ⟨z0, z1, z2, z3, z4, z5, z6, z7, z8, z9, z10, z11, z12⟩ := HZ3.out.all
        have zf := block_free HZ3.out
        rw [if_pos (by kernel_rfl)]
        go_simp
        obtain ⟨s1, hg⟩ := set13 (t' := o) HZ3.out
        have hbw := ((Below.refl u3.heap.size u3).mono Hw3.out.size).grown hg Hw3.out.size (fun q hq => by injection hq with hq; omega)
        have HX4 := Lib.hid s1; have HBk4 := Lib.hid (HBk3.out.box HZ3.out hg); have HO4 := Lib.hid (HO3.out.box HZ3.out hg)
        have HT4 : Hid (Box t' ((((((((((((((u3.setCell ⟨bz, 0, none⟩ (.int .u8 (o.d.x0 : Int))).setCell ⟨bz, 1, none⟩ (.int .u8 (o.d.x1 : Int))).setCell ⟨bz, 2, none⟩ (.int .u8 (o.d.x2 : Int))).setCell ⟨bz, 3, none⟩ (.int .u8 (o.d.x3 : Int))).setCell ⟨bz, 4, none⟩ (.int .u8 (o.d.x4 : Int))).setCell ⟨bz, 5, none⟩ (.int .u8 (o.d.x5 : Int))).setCell ⟨bz, 6, none⟩ (.int .u8 (o.d.x6 : Int))).setCell ⟨bz, 7, none⟩ (.int .u8 (o.d.x7 : Int))).setCell ⟨bz, 8, none⟩ (.int .i64 o.no)).setCell ⟨bz, 9, none⟩ (.int .i64 o.fe)).setCell ⟨bz, 10, none⟩ (.int .i64 o.ki)).setCell ⟨bz, 11, none⟩ (.slice o.A o.n o.c)).setCell ⟨bz, 12, none⟩ (.slice o.A' o.n' o.c'))) w.heap.size) := (hg.block _ (block_lt HT3.out) (by intro e; injection e with e; omega)).trans HT3.out
        have HD4 : Hid (DBox key 22 ((((((((((((((u3.setCell ⟨bz, 0, none⟩ (.int .u8 (o.d.x0 : Int))).setCell ⟨bz, 1, none⟩ (.int .u8 (o.d.x1 : Int))).setCell ⟨bz, 2, none⟩ (.int .u8 (o.d.x2 : Int))).setCell ⟨bz, 3, none⟩ (.int .u8 (o.d.x3 : Int))).setCell ⟨bz, 4, none⟩ (.int .u8 (o.d.x4 : Int))).setCell ⟨bz, 5, none⟩ (.int .u8 (o.d.x5 : Int))).setCell ⟨bz, 6, none⟩ (.int .u8 (o.d.x6 : Int))).setCell ⟨bz, 7, none⟩ (.int .u8 (o.d.x7 : Int))).setCell ⟨bz, 8, none⟩ (.int .i64 o.no)).setCell ⟨bz, 9, none⟩ (.int .i64 o.fe)).setCell ⟨bz, 10, none⟩ (.int .i64 o.ki)).setCell ⟨bz, 11, none⟩ (.slice o.A o.n o.c)).setCell ⟨bz, 12, none⟩ (.slice o.A' o.n' o.c'))) (w.heap.size + 1)) := (hg.block _ (block_lt HD3.out) (by intro e; injection e with e; omega)).trans HD3.out
        have Hw4 := Lib.hid (Hw3.out.trans hbw); have Hat4 := Lib.hid (Hat3.out.keep hbw (Nat.le_refl _))
        refine hK.out _ _ ⟨HT4.out, HD4.out⟩ (fun _ => ?_)
        clear hK K z0 z1 z2 z3 z4 z5 z6 z7 z8 z9 z10 z11 z12 zf s1 hg hbw
        generalize (((((((((((((u3.setCell ⟨bz, 0, none⟩ (.int .u8 (o.d.x0 : Int))).setCell ⟨bz, 1, none⟩ (.int .u8 (o.d.x1 : Int))).setCell ⟨bz, 2, none⟩ (.int .u8 (o.d.x2 : Int))).setCell ⟨bz, 3, none⟩ (.int .u8 (o.d.x3 : Int))).setCell ⟨bz, 4, none⟩ (.int .u8 (o.d.x4 : Int))).setCell ⟨bz, 5, none⟩ (.int .u8 (o.d.x5 : Int))).setCell ⟨bz, 6, none⟩ (.int .u8 (o.d.x6 : Int))).setCell ⟨bz, 7, none⟩ (.int .u8 (o.d.x7 : Int))).setCell ⟨bz, 8, none⟩ (.int .i64 o.no)).setCell ⟨bz, 9, none⟩ (.int .i64 o.fe)).setCell ⟨bz, 10, none⟩ (.int .i64 o.ki)).setCell ⟨bz, 11, none⟩ (.slice o.A o.n o.c)).setCell ⟨bz, 12, none⟩ (.slice o.A' o.n' o.c')) = u4 at *
        refine takeH 10 (some 7) (v := ?_) rfl (by kernel_rfl) (by kernel_rfl) (by kernel_rfl) (by kernel_rfl) (fun _ _ _ h => h) (Or.inl ⟨by kernel_rfl, ?hy⟩) (by assumption) ?_
        case hy =>
          intro w' hSw
          try dsimp only at hSw
          first
            | (go_simp; done)
            | (go_simp; with_reducible rfl)
        simp only [Act.put, List.setIfInBounds_toArray, List.set_cons_zero, List.set_cons_succ]
        refine wpAnyH_done (by kernel_rfl) ?_ _
        go_wp2_with fail
        go_meet
        exact ⟨bz, o, err, L', rfl, rfl, HSo, Lib.hid (HA.out.owned HO4.out), HX4, HBk4, HT4, HD4, Hw4, Hat4⟩
    ·
      rw [if_pos (by kernel_rfl)]
      go_simp
      have hb := h_one u0 (.cells #[.int .u8 0, .int .u8 0, .int .u8 0, .int .u8 0, .int .u8 0, .int .u8 0, .int .u8 0, .int .u8 0, .int .i64 0, .int .i64 0, .int .i64 0, .slice none 0 0, .slice none 0 0] 26)
      have HZ1 : Hid (Box txZ (u0.alloc (.cells #[.int .u8 0, .int .u8 0, .int .u8 0, .int .u8 0, .int .u8 0, .int .u8 0, .int .u8 0, .int .u8 0, .int .i64 0, .int .i64 0, .int .i64 0, .slice none 0 0, .slice none 0 0] 26)) u0.heap.size) := heap_alloc_new u0 (.cells #[.int .u8 0, .int .u8 0, .int .u8 0, .int .u8 0, .int .u8 0, .int .u8 0, .int .u8 0, .int .u8 0, .int .i64 0, .int .i64 0, .int .i64 0, .slice none 0 0, .slice none 0 0] 26)
      have HBk1 := Lib.hid (HBk0.out.below hb); have HT1 := Lib.hid (HT0.out.below hb); have HD1 := Lib.hid (HD0.out.below hb); have Hw1 := Lib.hid (Hw0.out.trans (hb.mono Hw0.out.size)); have Hat1 := Lib.hid (Hat0.out.keep (hb.mono Hw0.out.size) (Nat.le_refl _))
      try have HO1 := Lib.hid (HO0.out.below hb)
      have hbz : w.heap.size ≤ u0.heap.size := Hw0.out.size
      have hbz1 := block_lt HD0.out
      refine hK.out _ _ ⟨HT1.out, HD1.out⟩ (fun _ => ?_)
      clear hK K hb
      generalize u0.alloc (.cells #[.int .u8 0, .int .u8 0, .int .u8 0, .int .u8 0, .int .u8 0, .int .u8 0, .int .u8 0, .int .u8 0, .int .i64 0, .int .i64 0, .int .i64 0, .slice none 0 0, .slice none 0 0] 26) = u1 at *
      generalize u0.heap.size = bz at *
      refine wpAnyH_ready (rs := [3]) (by kernel_rfl) (by simp) ?_
      refine AllReadyH.cons rfl (fun K hK => ?_) AllReadyH.nil
      rw [if_pos (by kernel_rfl)]
      go_simp
      refine (signer_any key _ u1).mono ?_
      rintro e u2 ⟨rfl, hb⟩
      have HBk2 := Lib.hid (HBk1.out.below hb); have HT2 := Lib.hid (HT1.out.below hb); have HD2 := Lib.hid (HD1.out.below hb); have Hw2 := Lib.hid (Hw1.out.trans (hb.mono Hw1.out.size)); have Hat2 := Lib.hid (Hat1.out.keep (hb.mono Hw1.out.size) (Nat.le_refl _))
      try have HZ2 := Lib.hid (HZ1.out.below hb)
      refine hK.out _ _ ⟨HT2.out, HD2.out⟩ (fun _ => ?_)
      clear hK K hb
      refine wpAnyH_ready (rs := [4]) (by kernel_rfl) (by simp) ?_
      refine AllReadyH.cons rfl (fun K hK => ?_) AllReadyH.nil
      rw [if_pos (by kernel_rfl)]
      go_simp
      refine (txsign_any t' key _ _ _ [] u2 (Hat2.out.at Hw2.out.size) HBk2.out Hk.out (by decide)).mono ?_
      intro e u3 hg
      obtain ⟨o, err, L', rfl, hso, hoa, hoo, hbk, hkp⟩ := hg.form HBk2.out
      have hbw := hkp.below (B := w.heap.size) (by omega) (by omega)
      have HT3 := Lib.hid (hkp.boxT HBk2.out HT2.out); have HD3 := Lib.hid (hkp.dbox HBk2.out HD2.out); have HBk3 := Lib.hid hbk; have HO3 := Lib.hid hoo; have HA := Lib.hid hoa; have HSo := Lib.hid hso
      have Hw3 := Lib.hid (Hw2.out.trans hbw); have Hat3 := Lib.hid (Hat2.out.keep hbw (Nat.le_refl _))
      try have HZ3 := Lib.hid (hkp.boxT HBk2.out HZ2.out)
      refine hK.out _ _ ⟨HT3.out, HD3.out⟩ (fun _ => ?_)
      clear hK K hg hso hoa hoo hbk hkp hbw
      refine takeH 5 (some 18) (v := ?_) rfl (by kernel_rfl) (by kernel_rfl) (by kernel_rfl) (by kernel_rfl) (fun _ _ _ h => h) (Or.inl ⟨by kernel_rfl, ?hy⟩) (by assumption) ?_
      case hy =>
        intro w' hSw
        try dsimp only at hSw
        first
          | (go_simp; done)
          | (go_simp; with_reducible rfl)
      simp only [Act.put, List.setIfInBounds_toArray, List.set_cons_zero, List.set_cons_succ]
      refine takeH 6 (some 24) (v := ?_) rfl (by kernel_rfl) (by kernel_rfl) (by kernel_rfl) (by kernel_rfl) (fun _ _ _ h => h) (Or.inl ⟨by kernel_rfl, ?hy⟩) (by assumption) ?_
      case hy =>
        intro w' hSw
        try dsimp only at hSw
        first
          | (go_simp; done)
          | (go_simp; with_reducible rfl)
      simp only [Act.put, List.setIfInBounds_toArray, List.set_cons_zero, List.set_cons_succ]
      refine takeH 7 (some 25) (v := ?_) rfl (by kernel_rfl) (by kernel_rfl) (by kernel_rfl) (by kernel_rfl) (fun _ _ _ h => h) (Or.inl ⟨by kernel_rfl, ?hy⟩) (by assumption) ?_
      case hy =>
        intro w' hSw
        try dsimp only at hSw
        first
          | (go_simp; done)
          | (go_simp; with_reducible rfl)
      simp only [Act.put, List.setIfInBounds_toArray, List.set_cons_zero, List.set_cons_succ]
      refine wpAnyH_ready (rs := [9]) (by kernel_rfl) (by simp) ?_
      refine AllReadyH.cons rfl (fun K hK => ?_) AllReadyH.nil
      obtain ⟨z0, z1, z2, z3, z4, z5, z6, z7, z8, z9, z10, z11, z12⟩ := HZ3.out.all
      have zf := block_free HZ3.out
      rw [if_pos (by kernel_rfl)]
      go_simp
      obtain ⟨s1, hg⟩ := set13 (t' := o) HZ3.out
      have hbw := ((Below.refl u3.heap.size u3).mono Hw3.out.size).grown hg Hw3.out.size (fun q hq => by injection hq with hq; omega)
      have HX4 := Lib.hid s1; have HBk4 := Lib.hid (HBk3.out.box HZ3.out hg); have HO4 := Lib.hid (HO3.out.box HZ3.out hg)
      have HT4 : Hid (Box t' ((((((((((((((u3.setCell ⟨bz, 0, none⟩ (.int .u8 (o.d.x0 : Int))).setCell ⟨bz, 1, none⟩ (.int .u8 (o.d.x1 : Int))).setCell ⟨bz, 2, none⟩ (.int .u8 (o.d.x2 : Int))).setCell ⟨bz, 3, none⟩ (.int .u8 (o.d.x3 : Int))).setCell ⟨bz, 4, none⟩ (.int .u8 (o.d.x4 : Int))).setCell ⟨bz, 5, none⟩ (.int .u8 (o.d.x5 : Int))).setCell ⟨bz, 6, none⟩ (.int .u8 (o.d.x6 : Int))).setCell ⟨bz, 7, none⟩ (.int .u8 (o.d.x7 : Int))).setCell ⟨bz, 8, none⟩ (.int .i64 o.no)).setCell ⟨bz, 9, none⟩ (.int .i64 o.fe)).setCell ⟨bz, 10, none⟩ (.int .i64 o.ki)).setCell ⟨bz, 11, none⟩ (.slice o.A o.n o.c)).setCell ⟨bz, 12, none⟩ (.slice o.A' o.n' o.c'))) w.heap.size) := (hg.block _ (block_lt HT3.out) (by intro e; injection e with e; omega)).trans HT3.out
      have HD4 : Hid (DBox key 22 ((((((((((((((u3.setCell ⟨bz, 0, none⟩ (.int .u8 (o.d.x0 : Int))).setCell ⟨bz, 1, none⟩ (.int .u8 (o.d.x1 : Int))).setCell ⟨bz, 2, none⟩ (.int .u8 (o.d.x2 : Int))).setCell ⟨bz, 3, none⟩ (.int .u8 (o.d.x3 : Int))).setCell ⟨bz, 4, none⟩ (.int .u8 (o.d.x4 : Int))).setCell ⟨bz, 5, none⟩ (.int .u8 (o.d.x5 : Int))).setCell ⟨bz, 6, none⟩ (.int .u8 (o.d.x6 : Int))).setCell ⟨bz, 7, none⟩ (.int .u8 (o.d.x7 : Int))).setCell ⟨bz, 8, none⟩ (.int .i64 o.no)).setCell ⟨bz, 9, none⟩ (.int .i64 o.fe)).setCell ⟨bz, 10, none⟩ (.int .i64 o.ki)).setCell ⟨bz, 11, none⟩ (.slice o.A o.n o.c)).setCell ⟨bz, 12, none⟩ (.slice o.A' o.n' o.c'))) (w.heap.size + 1)) := (hg.block _ (block_lt HD3.out) (by intro e; injection e with e; omega)).trans HD3.out
      have Hw4 := Lib.hid (Hw3.out.trans hbw); have Hat4 := Lib.hid (Hat3.out.keep hbw (Nat.le_refl _))
      refine hK.out _ _ ⟨HT4.out, HD4.out⟩ (fun _ => ?_)
      clear hK K z0 z1 z2 z3 z4 z5 z6 z7 z8 z9 z10 z11 z12 zf s1 hg hbw
      generalize (((((((((((((u3.setCell ⟨bz, 0, none⟩ (.int .u8 (o.d.x0 : Int))).setCell ⟨bz, 1, none⟩ (.int .u8 (o.d.x1 : Int))).setCell ⟨bz, 2, none⟩ (.int .u8 (o.d.x2 : Int))).setCell ⟨bz, 3, none⟩ (.int .u8 (o.d.x3 : Int))).setCell ⟨bz, 4, none⟩ (.int .u8 (o.d.x4 : Int))).setCell ⟨bz, 5, none⟩ (.int .u8 (o.d.x5 : Int))).setCell ⟨bz, 6, none⟩ (.int .u8 (o.d.x6 : Int))).setCell ⟨bz, 7, none⟩ (.int .u8 (o.d.x7 : Int))).setCell ⟨bz, 8, none⟩ (.int .i64 o.no)).setCell ⟨bz, 9, none⟩ (.int .i64 o.fe)).setCell ⟨bz, 10, none⟩ (.int .i64 o.ki)).setCell ⟨bz, 11, none⟩ (.slice o.A o.n o.c)).setCell ⟨bz, 12, none⟩ (.slice o.A' o.n' o.c')) = u4 at *
      refine takeH 10 (some 7) (v := ?_) rfl (by kernel_rfl) (by kernel_rfl) (by kernel_rfl) (by kernel_rfl) (fun _ _ _ h => h) (Or.inl ⟨by kernel_rfl, ?hy⟩) (by assumption) ?_
      case hy =>
        intro w' hSw
        try dsimp only at hSw
        first
          | (go_simp; done)
          | (go_simp; with_reducible rfl)
      simp only [Act.put, List.setIfInBounds_toArray, List.set_cons_zero, List.set_cons_succ]
      refine wpAnyH_done (by kernel_rfl) ?_ _
      go_wp2_with fail
      go_meet
      exact ⟨bz, o, err, L', rfl, rfl, HSo, Lib.hid (HA.out.owned HO4.out), HX4, HBk4, HT4, HD4, Hw4, Hat4⟩
  case rest =>
    obtain ⟨b6, o, err, L', rfl, rfl, HSo, HoA, HX, HBk, HT, HD, Hw, Hat⟩ := hcut
    obtain ⟨y0, y1, y2, y3, y4, y5, y6, y7, y8, y9, y10, y11, y12⟩ := HT.out.all
    go_wp2_with fail
    refine (of_any t' wc).mono ?_
    rintro e v1 ⟨rfl, hb⟩
    have HoA1 := Lib.hid (HoA.out.up hb); have HX1 := Lib.hid (HX.out.below hb); have HBk1 := Lib.hid (HBk.out.below hb); have HD1 := Lib.hid (HD.out.below hb); have Hw1 := Lib.hid (Hw.out.trans (hb.mono Hw.out.size)); have Hat1 := Lib.hid (Hat.out.keep (hb.mono Hw.out.size) (Nat.le_refl _))
    have HR1 : Hid (BoxR t' (v1.alloc (.cells #[.int .u8 (t'.d.x0 : Int), .int .u8 (t'.d.x1 : Int), .int .u8 (t'.d.x2 : Int), .int .u8 (t'.d.x3 : Int), .int .u8 (t'.d.x4 : Int), .int .u8 (t'.d.x5 : Int), .int .u8 (t'.d.x6 : Int), .int .u8 (t'.d.x7 : Int), .int .i64 t'.no, .int .i64 t'.fe, .int .i64 t'.ki, .slice t'.A t'.n t'.c, .slice t'.A' t'.n' t'.c'] 34)) v1.heap.size) := heap_alloc_new v1 _
    have HQ1 : Hid (Below v1.heap.size v1 (v1.alloc (.cells #[.int .u8 (t'.d.x0 : Int), .int .u8 (t'.d.x1 : Int), .int .u8 (t'.d.x2 : Int), .int .u8 (t'.d.x3 : Int), .int .u8 (t'.d.x4 : Int), .int .u8 (t'.d.x5 : Int), .int .u8 (t'.d.x6 : Int), .int .u8 (t'.d.x7 : Int), .int .i64 t'.no, .int .i64 t'.fe, .int .i64 t'.ki, .slice t'.A t'.n t'.c, .slice t'.A' t'.n' t'.c'] 34))) := h_one v1 _
    have HD2 := Lib.hid (HD1.out.below HQ1.out)
    clear y0 y1 y2 y3 y4 y5 y6 y7 y8 y9 y10 y11 y12 hb HoA HX HBk HD Hw Hat HT
    go_upto_region 7 with fail
    generalize v1.alloc (.cells #[.int .u8 (t'.d.x0 : Int), .int .u8 (t'.d.x1 : Int), .int .u8 (t'.d.x2 : Int), .int .u8 (t'.d.x3 : Int), .int .u8 (t'.d.x4 : Int), .int .u8 (t'.d.x5 : Int), .int .u8 (t'.d.x6 : Int), .int .u8 (t'.d.x7 : Int), .int .i64 t'.no, .int .i64 t'.fe, .int .i64 t'.ki, .slice t'.A t'.n t'.c, .slice t'.A' t'.n' t'.c'] 34) = v2 at *
    obtain ⟨b8, hb8⟩ : ∃ b8, b8 = v1.heap.size := ⟨_, rfl⟩
    rw [← hb8] at HR1 HQ1
    rw [← hb8]
    have Hb8 := Lib.hid hb8
    clear hb8
    obtain ⟨q0, q1, q2, q3, q4, q5, q6, q7⟩ := HD2.out.all
    obtain ⟨y0, y1, y2, y3, y4, y5, y6, y7, y8, y9, y10, y11, y12⟩ := HR1.out.all
    have yf := block_free HR1.out
    obtain ⟨s1, g1⟩ := setKeyR HR1.out key
    obtain ⟨s2, g2⟩ := setSigR s1 none 0 0 []
    go_upto_region 8 with fail
    have hq := HQ1.out.grown (g1.trans g2) (by have := HQ1.out.size; rw [← Hb8.out] at this; exact this) (fun q hq => by injection hq with hq; omega)
    have HR3 := Lib.hid s2
    generalize (((((((((v2.setCell ⟨b8, 0, none⟩ (.int .u8 (key.x0 : Int))).setCell ⟨b8, 1, none⟩ (.int .u8 (key.x1 : Int))).setCell ⟨b8, 2, none⟩ (.int .u8 (key.x2 : Int))).setCell ⟨b8, 3, none⟩ (.int .u8 (key.x3 : Int))).setCell ⟨b8, 4, none⟩ (.int .u8 (key.x4 : Int))).setCell ⟨b8, 5, none⟩ (.int .u8 (key.x5 : Int))).setCell ⟨b8, 6, none⟩ (.int .u8 (key.x6 : Int))).setCell ⟨b8, 7, none⟩ (.int .u8 (key.x7 : Int)))).setCell ⟨b8, 12, none⟩ (.slice none 0 0) = v3 at *
    clear q0 q1 q2 q3 q4 q5 q6 q7 y0 y1 y2 y3 y4 y5 y6 y7 y8 y9 y10 y11 y12 yf s1 s2 g1 g2 HR1 HQ1 HD2
    rw [Hb8.out] at hq
    have HoA3 := Lib.hid (HoA1.out.up hq); have HX3 := Lib.hid (HX1.out.below hq); have HBk3 := Lib.hid (HBk1.out.below hq); have HD3 := Lib.hid (HD1.out.below hq); have Hw3 := Lib.hid (Hw1.out.trans (hq.mono Hw1.out.size)); have Hat3 := Lib.hid (Hat1.out.keep (hq.mono Hw1.out.size) (Nat.le_refl _))
    clear hq HoA1 HX1 HBk1 HD1 Hw1 Hat1 Hb8
    obtain ⟨tw, htw⟩ : ∃ tw : TxV, tw = (t'.withKey key).withSig none 0 0 [] := ⟨_, rfl⟩
    rw [← htw] at HR3
    have ew : tw.d = key ∧ tw.no = t'.no ∧ tw.fe = t'.fe ∧ tw.ki = t'.ki ∧ tw.bo = t'.bo ∧ tw.si = [] := by rw [htw]; exact ⟨rfl, rfl, rfl, rfl, rfl, rfl⟩
    have HwA3 : Hid (tw.At v3) := by
      have ha := Hat3.out.at Hw3.out.size
      rw [htw]
      exact ⟨Hk.out, ha.r1, Rd.empty, ha.c1, Nat.le_refl _, ha.b1, by simp [TxV.withSig], ha.m1, by simp [TxV.withSig]⟩
    have Ew := Lib.hid ew
    clear htw ew Hat3
    obtain ⟨y0, y1, y2, y3, y4, y5, y6, y7, y8, y9, y10, y11, y12⟩ := HR3.out.all
    go_wp2_with fail
    refine (checkr_any tw v3 HwA3.out).mono ?_
    rintro e v4 ⟨rfl, hb⟩
    rw [show checkT tw.no tw.fe tw.ki tw.bo tw.si = err by rw [HSo.out.1, Ew.out.2.1, Ew.out.2.2.1, Ew.out.2.2.2.1, Ew.out.2.2.2.2.1, Ew.out.2.2.2.2.2]]
    have HoA4 := Lib.hid (HoA3.out.up hb); have HX4 := Lib.hid (HX3.out.below hb); have HBk4 := Lib.hid (HBk3.out.below hb); have HD4 := Lib.hid (HD3.out.below hb); have Hw4 := Lib.hid (Hw3.out.trans (hb.mono Hw3.out.size)); have HwA4 := Lib.hid (HwA3.out.up hb); have HR4 := Lib.hid (HR3.out.under hb (block_lt HR3.out))
    clear hb y0 y1 y2 y3 y4 y5 y6 y7 y8 y9 y10 y11 y12 HoA3 HX3 HBk3 HD3 Hw3 HwA3 HR3
    by_cases he : err = 0
    · subst he
      have e1 : ((0 : Int) != 0) = false := by decide
      have heq := eql_dig
      obtain ⟨hck, hor⟩ := HSo.out
      obtain ⟨_, o0, o1, o2, o3, o4, o5, hL⟩ := hor.resolve_right (fun h => h.1 rfl)
      clear hor
      have hs1 : signE [] ⟨key, askedT key t'.no t'.fe t'.ki t'.bo⟩ = ([⟨key, askedT key t'.no t'.fe t'.ki t'.bo⟩], 0) := rfl
      rw [hs1] at o5 hL
      simp only at o5 hL
      subst hL
      have Hmo : Hid ((askedT key t'.no t'.fe t'.ki t'.bo).ok) := hashWord_ok _ _
      have Hask : Hid (askedT o.d o.no o.fe o.ki o.bo = askedT key t'.no t'.fe t'.ki t'.bo) := by show _ = _; rw [o0, o1, o2, o3, o4]
      have Hver : Hid (verT [⟨key, askedT key t'.no t'.fe t'.ki t'.bo⟩] o = 0) := by
        show _ = _
        unfold verT
        rw [Hask.out, o0, o1, o2, o3, o4, o5, checkT_sig, ← hck, if_pos rfl]
        have hp : posE [(⟨key, askedT key t'.no t'.fe t'.ki t'.bo⟩ : En)] ⟨key, askedT key t'.no t'.fe t'.ki t'.bo⟩ = some 0 := posE_at (by simp) rfl
        unfold verS
        rw [hp]
        simp
      have Hsg : Hid (signedE [(⟨key, askedT key t'.no t'.fe t'.ki t'.bo⟩ : En)] key = [askedT key t'.no t'.fe t'.ki t'.bo]) := by
        show _ = _
        unfold signedE isK
        have : eqI key.L key.L = true := eqN_iff.2 rfl
        simp [this]
      have hsi2 : o.si.length = 2 := by rw [o5]; rfl
      have Hosi := Lib.hid (show o.n' = 2 by have := HoA4.out.len2; omega)
      have HO := Lib.hid (And.intro o0 (And.intro o1 (And.intro o2 (And.intro o3 o4))))
      clear hck o0 o1 o2 o3 o4 o5 hs1 hsi2
      generalize askedT key t'.no t'.fe t'.ki t'.bo = md at *
      obtain ⟨y0, y1, y2, y3, y4, y5, y6, y7, y8, y9, y10, y11, y12⟩ := HX4.out.all
      go_wp2_with fail
      refine (of_any o v4).mono ?_
      rintro e v5 ⟨rfl, hb⟩
      have HoA5 := Lib.hid (HoA4.out.up hb); have HX5 := Lib.hid (HX4.out.below hb); have HBk5 := Lib.hid (HBk4.out.below hb); have HD5 := Lib.hid (HD4.out.below hb); have Hw5 := Lib.hid (Hw4.out.trans (hb.mono Hw4.out.size)); have HwA5 := Lib.hid (HwA4.out.up hb); have HR5 := Lib.hid (HR4.out.under hb (block_lt HR4.out))
      have HY5 : Hid (BoxR o (v5.alloc (.cells #[.int .u8 (o.d.x0 : Int), .int .u8 (o.d.x1 : Int), .int .u8 (o.d.x2 : Int), .int .u8 (o.d.x3 : Int), .int .u8 (o.d.x4 : Int), .int .u8 (o.d.x5 : Int), .int .u8 (o.d.x6 : Int), .int .u8 (o.d.x7 : Int), .int .i64 o.no, .int .i64 o.fe, .int .i64 o.ki, .slice o.A o.n o.c, .slice o.A' o.n' o.c'] 34)) v5.heap.size) := heap_alloc_new v5 _
      have HQ5 : Hid (Below v5.heap.size v5 (v5.alloc (.cells #[.int .u8 (o.d.x0 : Int), .int .u8 (o.d.x1 : Int), .int .u8 (o.d.x2 : Int), .int .u8 (o.d.x3 : Int), .int .u8 (o.d.x4 : Int), .int .u8 (o.d.x5 : Int), .int .u8 (o.d.x6 : Int), .int .u8 (o.d.x7 : Int), .int .i64 o.no, .int .i64 o.fe, .int .i64 o.ki, .slice o.A o.n o.c, .slice o.A' o.n' o.c'] 34))) := h_one v5 _
      clear y0 y1 y2 y3 y4 y5 y6 y7 y8 y9 y10 y11 y12 hb HoA4 HX4 HBk4 HD4 Hw4 HwA4 HR4
      go_upto_region 12 with fail
      generalize v5.alloc (.cells #[.int .u8 (o.d.x0 : Int), .int .u8 (o.d.x1 : Int), .int .u8 (o.d.x2 : Int), .int .u8 (o.d.x3 : Int), .int .u8 (o.d.x4 : Int), .int .u8 (o.d.x5 : Int), .int .u8 (o.d.x6 : Int), .int .u8 (o.d.x7 : Int), .int .i64 o.no, .int .i64 o.fe, .int .i64 o.ki, .slice o.A o.n o.c, .slice o.A' o.n' o.c'] 34) = v6 at *
      obtain ⟨b10, hb10⟩ : ∃ b10, b10 = v5.heap.size := ⟨_, rfl⟩
      rw [← hb10] at HY5 HQ5
      rw [← hb10]
      have Hb10 := Lib.hid hb10
      clear hb10
      obtain ⟨y0, y1, y2, y3, y4, y5, y6, y7, y8, y9, y10, y11, y12⟩ := HY5.out.all
      have yf := block_free HY5.out
      obtain ⟨s2, g2⟩ := setSigR HY5.out none 0 0 []
      go_upto_region 14 with fail
      have hq := HQ5.out.grown g2 (by have := HQ5.out.size; rw [← Hb10.out] at this; exact this) (fun q hq => by injection hq with hq; omega)
      have HY7 := Lib.hid s2
      generalize v6.setCell ⟨b10, 12, none⟩ (.slice none 0 0) = v7 at *
      clear y0 y1 y2 y3 y4 y5 y6 y7 y8 y9 y10 y11 y12 yf s2 g2 HY5 HQ5
      rw [Hb10.out] at hq
      have HoA7 := Lib.hid (HoA5.out.up hq); have HX7 := Lib.hid (HX5.out.below hq); have HBk7 := Lib.hid (HBk5.out.below hq); have HD7 := Lib.hid (HD5.out.below hq); have Hw7 := Lib.hid (Hw5.out.trans (hq.mono Hw5.out.size)); have HwA7 := Lib.hid (HwA5.out.up hq); have HR7 := Lib.hid (HR5.out.under hq (block_lt HR5.out))
      clear hq HoA5 HX5 HBk5 HD5 Hw5 HwA5 HR5 Hb10
      obtain ⟨tx, htx⟩ : ∃ tx : TxV, tx = o.withSig none 0 0 [] := ⟨_, rfl⟩
      rw [← htx] at HY7
      have HxA7 : Hid (tx.At v7) := by
        have ha := HoA7.out
        rw [htx]
        exact ⟨ha.ok, ha.r1, Rd.empty, ha.c1, Nat.le_refl _, ha.b1, by simp [TxV.withSig], ha.m1, by simp [TxV.withSig]⟩
      have Hst : Hid (sameT tx tw = true) := by
        refine sameT_iff.2 ?_
        obtain ⟨a0, a1, a2, a3, a4⟩ := HO.out
        obtain ⟨c0, c1, c2, c3, c4, c5⟩ := Ew.out
        rw [htx]
        exact ⟨a0.trans c0.symm, a1.trans c1.symm, a2.trans c2.symm, a3.trans c3.symm, a4.trans c4.symm, c5.symm⟩
      clear htx
      go_cut [12] (fun s12 wx => ∃ (b12 o12 c12 : Nat), s12 = .slice (some ⟨b12, o12, none⟩) 1 c12 ∧ b12 < wx.heap.size ∧ Hid (o.At wx) ∧ Hid (Box o wx b6) ∧ Hid (BookAt wx (w2.heap.size + 2) (w2.heap.size + 1) w2.heap.size [⟨key, md⟩]) ∧ Hid (Below w.heap.size w wx) ∧ Hid (tw.At wx) ∧ Hid (BoxR tw wx b8) ∧ Hid (BoxR tx wx b10) ∧ Hid (tx.At wx) ∧ (wx.cell? ⟨b12, o12 + 0, none⟩ = some (.int .u8 (md.x0 : Int)) ∧ wx.cell? ⟨b12, o12 + 1, none⟩ = some (.int .u8 (md.x1 : Int)) ∧ wx.cell? ⟨b12, o12 + 2, none⟩ = some (.int .u8 (md.x2 : Int)) ∧ wx.cell? ⟨b12, o12 + 3, none⟩ = some (.int .u8 (md.x3 : Int)) ∧ wx.cell? ⟨b12, o12 + 4, none⟩ = some (.int .u8 (md.x4 : Int)) ∧ wx.cell? ⟨b12, o12 + 5, none⟩ = some (.int .u8 (md.x5 : Int)) ∧ wx.cell? ⟨b12, o12 + 6, none⟩ = some (.int .u8 (md.x6 : Int)) ∧ wx.cell? ⟨b12, o12 + 7, none⟩ = some (.int .u8 (md.x7 : Int))))
      case first =>
        obtain ⟨q0, q1, q2, q3, q4, q5, q6, q7⟩ := HD7.out.all
        go_wp2_with fail
        refine (signed_any _ _ _ [⟨key, md⟩] key v7 HBk7.out (by simp)).mono ?_
        rintro e v8 ⟨A12, n12, c12, rfl, ho, hb⟩
        rw [Hsg.out] at ho
        have h12 : n12 = 1 := by have := ho.1; simp [flatD, D8.cells] at this; omega
        subst h12
        have HoA8 := Lib.hid (HoA7.out.up hb); have HX8 := Lib.hid (HX7.out.below hb); have HBk8 := Lib.hid (HBk7.out.below hb); have Hw8 := Lib.hid (Hw7.out.trans (hb.mono Hw7.out.size)); have HwA8 := Lib.hid (HwA7.out.up hb); have HR8 := Lib.hid (HR7.out.under hb (block_lt HR7.out)); have HY8 := Lib.hid (HY7.out.under hb (block_lt HY7.out)); have HxA8 := Lib.hid (HxA7.out.up hb)
        obtain ⟨b12, o12, rfl, hb12, xr⟩ := (Rd.of_own ho).2 (by omega)
        have r0 := xr 0 (.int .u8 (md.x0 : Int)) (by simp [flatD, D8.cells]); have r1 := xr 1 (.int .u8 (md.x1 : Int)) (by simp [flatD, D8.cells]); have r2 := xr 2 (.int .u8 (md.x2 : Int)) (by simp [flatD, D8.cells]); have r3 := xr 3 (.int .u8 (md.x3 : Int)) (by simp [flatD, D8.cells]); have r4 := xr 4 (.int .u8 (md.x4 : Int)) (by simp [flatD, D8.cells]); have r5 := xr 5 (.int .u8 (md.x5 : Int)) (by simp [flatD, D8.cells]); have r6 := xr 6 (.int .u8 (md.x6 : Int)) (by simp [flatD, D8.cells]); have r7 := xr 7 (.int .u8 (md.x7 : Int)) (by simp [flatD, D8.cells])
        clear hb ho xr q0 q1 q2 q3 q4 q5 q6 q7
        go_wp2_with fail
        go_meet
        exact ⟨b12, o12, c12, rfl, hb12, HoA8, HX8, HBk8, Hw8, HwA8, HR8, HY8, HxA8, r0, r1, r2, r3, r4, r5, r6, r7⟩
      case rest =>
      clear HoA7 HX7 HBk7 HD7 Hw7 HwA7 HR7 HY7 HxA7
      obtain ⟨b12, o12, c12, rfl, hb12, HoA8, HX8, HBk8, Hw8, HwA8, HR8, HY8, HxA8, r0, r1, r2, r3, r4, r5, r6, r7⟩ := hcut
      obtain ⟨v8, rfl⟩ : ∃ v8 : World, v8 = wc := ⟨_, rfl⟩
      have hS8 : ((v8.heap[b10]? = some (.cells #[.int .u8 (tx.d.x0 : Int), .int .u8 (tx.d.x1 : Int), .int .u8 (tx.d.x2 : Int), .int .u8 (tx.d.x3 : Int), .int .u8 (tx.d.x4 : Int), .int .u8 (tx.d.x5 : Int), .int .u8 (tx.d.x6 : Int), .int .u8 (tx.d.x7 : Int), .int .i64 tx.no, .int .i64 tx.fe, .int .i64 tx.ki, .slice tx.A tx.n tx.c, .slice tx.A' tx.n' tx.c'] 34 (0, 0)) ∧ v8.heap[b8]? = some (.cells #[.int .u8 (tw.d.x0 : Int), .int .u8 (tw.d.x1 : Int), .int .u8 (tw.d.x2 : Int), .int .u8 (tw.d.x3 : Int), .int .u8 (tw.d.x4 : Int), .int .u8 (tw.d.x5 : Int), .int .u8 (tw.d.x6 : Int), .int .u8 (tw.d.x7 : Int), .int .i64 tw.no, .int .i64 tw.fe, .int .i64 tw.ki, .slice tw.A tw.n tw.c, .slice tw.A' tw.n' tw.c'] 34 (0, 0))) ∧ v8.heap[b6]? = some (.cells #[.int .u8 (o.d.x0 : Int), .int .u8 (o.d.x1 : Int), .int .u8 (o.d.x2 : Int), .int .u8 (o.d.x3 : Int), .int .u8 (o.d.x4 : Int), .int .u8 (o.d.x5 : Int), .int .u8 (o.d.x6 : Int), .int .u8 (o.d.x7 : Int), .int .i64 o.no, .int .i64 o.fe, .int .i64 o.ki, .slice o.A o.n o.c, .slice o.A' o.n' o.c'] 26 (0, 0))) ∧ (v8.cell? ⟨b12, o12 + 0, none⟩ = some (.int .u8 (md.x0 : Int)) ∧ v8.cell? ⟨b12, o12 + 1, none⟩ = some (.int .u8 (md.x1 : Int)) ∧ v8.cell? ⟨b12, o12 + 2, none⟩ = some (.int .u8 (md.x2 : Int)) ∧ v8.cell? ⟨b12, o12 + 3, none⟩ = some (.int .u8 (md.x3 : Int)) ∧ v8.cell? ⟨b12, o12 + 4, none⟩ = some (.int .u8 (md.x4 : Int)) ∧ v8.cell? ⟨b12, o12 + 5, none⟩ = some (.int .u8 (md.x5 : Int)) ∧ v8.cell? ⟨b12, o12 + 6, none⟩ = some (.int .u8 (md.x6 : Int)) ∧ v8.cell? ⟨b12, o12 + 7, none⟩ = some (.int .u8 (md.x7 : Int))) := ⟨⟨⟨HY8.out, HR8.out⟩, HX8.out⟩, r0, r1, r2, r3, r4, r5, r6, r7⟩
      have Hkeep : Hid (∀ u u' : World, Below u.heap.size u u' → v8.heap.size ≤ u.heap.size → ((((u.heap[b10]? = some (.cells #[.int .u8 (tx.d.x0 : Int), .int .u8 (tx.d.x1 : Int), .int .u8 (tx.d.x2 : Int), .int .u8 (tx.d.x3 : Int), .int .u8 (tx.d.x4 : Int), .int .u8 (tx.d.x5 : Int), .int .u8 (tx.d.x6 : Int), .int .u8 (tx.d.x7 : Int), .int .i64 tx.no, .int .i64 tx.fe, .int .i64 tx.ki, .slice tx.A tx.n tx.c, .slice tx.A' tx.n' tx.c'] 34 (0, 0)) ∧ u.heap[b8]? = some (.cells #[.int .u8 (tw.d.x0 : Int), .int .u8 (tw.d.x1 : Int), .int .u8 (tw.d.x2 : Int), .int .u8 (tw.d.x3 : Int), .int .u8 (tw.d.x4 : Int), .int .u8 (tw.d.x5 : Int), .int .u8 (tw.d.x6 : Int), .int .u8 (tw.d.x7 : Int), .int .i64 tw.no, .int .i64 tw.fe, .int .i64 tw.ki, .slice tw.A tw.n tw.c, .slice tw.A' tw.n' tw.c'] 34 (0, 0))) ∧ u.heap[b6]? = some (.cells #[.int .u8 (o.d.x0 : Int), .int .u8 (o.d.x1 : Int), .int .u8 (o.d.x2 : Int), .int .u8 (o.d.x3 : Int), .int .u8 (o.d.x4 : Int), .int .u8 (o.d.x5 : Int), .int .u8 (o.d.x6 : Int), .int .u8 (o.d.x7 : Int), .int .i64 o.no, .int .i64 o.fe, .int .i64 o.ki, .slice o.A o.n o.c, .slice o.A' o.n' o.c'] 26 (0, 0))) ∧ (u.cell? ⟨b12, o12 + 0, none⟩ = some (.int .u8 (md.x0 : Int)) ∧ u.cell? ⟨b12, o12 + 1, none⟩ = some (.int .u8 (md.x1 : Int)) ∧ u.cell? ⟨b12, o12 + 2, none⟩ = some (.int .u8 (md.x2 : Int)) ∧ u.cell? ⟨b12, o12 + 3, none⟩ = some (.int .u8 (md.x3 : Int)) ∧ u.cell? ⟨b12, o12 + 4, none⟩ = some (.int .u8 (md.x4 : Int)) ∧ u.cell? ⟨b12, o12 + 5, none⟩ = some (.int .u8 (md.x5 : Int)) ∧ u.cell? ⟨b12, o12 + 6, none⟩ = some (.int .u8 (md.x6 : Int)) ∧ u.cell? ⟨b12, o12 + 7, none⟩ = some (.int .u8 (md.x7 : Int)))) → (((u'.heap[b10]? = some (.cells #[.int .u8 (tx.d.x0 : Int), .int .u8 (tx.d.x1 : Int), .int .u8 (tx.d.x2 : Int), .int .u8 (tx.d.x3 : Int), .int .u8 (tx.d.x4 : Int), .int .u8 (tx.d.x5 : Int), .int .u8 (tx.d.x6 : Int), .int .u8 (tx.d.x7 : Int), .int .i64 tx.no, .int .i64 tx.fe, .int .i64 tx.ki, .slice tx.A tx.n tx.c, .slice tx.A' tx.n' tx.c'] 34 (0, 0)) ∧ u'.heap[b8]? = some (.cells #[.int .u8 (tw.d.x0 : Int), .int .u8 (tw.d.x1 : Int), .int .u8 (tw.d.x2 : Int), .int .u8 (tw.d.x3 : Int), .int .u8 (tw.d.x4 : Int), .int .u8 (tw.d.x5 : Int), .int .u8 (tw.d.x6 : Int), .int .u8 (tw.d.x7 : Int), .int .i64 tw.no, .int .i64 tw.fe, .int .i64 tw.ki, .slice tw.A tw.n tw.c, .slice tw.A' tw.n' tw.c'] 34 (0, 0))) ∧ u'.heap[b6]? = some (.cells #[.int .u8 (o.d.x0 : Int), .int .u8 (o.d.x1 : Int), .int .u8 (o.d.x2 : Int), .int .u8 (o.d.x3 : Int), .int .u8 (o.d.x4 : Int), .int .u8 (o.d.x5 : Int), .int .u8 (o.d.x6 : Int), .int .u8 (o.d.x7 : Int), .int .i64 o.no, .int .i64 o.fe, .int .i64 o.ki, .slice o.A o.n o.c, .slice o.A' o.n' o.c'] 26 (0, 0))) ∧ (u'.cell? ⟨b12, o12 + 0, none⟩ = some (.int .u8 (md.x0 : Int)) ∧ u'.cell? ⟨b12, o12 + 1, none⟩ = some (.int .u8 (md.x1 : Int)) ∧ u'.cell? ⟨b12, o12 + 2, none⟩ = some (.int .u8 (md.x2 : Int)) ∧ u'.cell? ⟨b12, o12 + 3, none⟩ = some (.int .u8 (md.x3 : Int)) ∧ u'.cell? ⟨b12, o12 + 4, none⟩ = some (.int .u8 (md.x4 : Int)) ∧ u'.cell? ⟨b12, o12 + 5, none⟩ = some (.int .u8 (md.x5 : Int)) ∧ u'.cell? ⟨b12, o12 + 6, none⟩ = some (.int .u8 (md.x6 : Int)) ∧ u'.cell? ⟨b12, o12 + 7, none⟩ = some (.int .u8 (md.x7 : Int)))))) := by
        intro u u' hb hz h
        obtain ⟨⟨⟨h1, h2⟩, h3⟩, a0, a1, a2, a3, a4, a5, a6, a7⟩ := h
        have hbl : b12 < u.heap.size := Nat.lt_of_lt_of_le hb12 hz
        exact ⟨⟨⟨block_below h1 hb (block_lt h1), block_below h2 hb (block_lt h2)⟩, block_below h3 hb (block_lt h3)⟩, cellT a0 hb hbl, cellT a1 hb hbl, cellT a2 hb hbl, cellT a3 hb hbl, cellT a4 hb hbl, cellT a5 hb hbl, cellT a6 hb hbl, cellT a7 hb hbl⟩
      have Hcells : Hid (∀ u : World, (((u.heap[b10]? = some (.cells #[.int .u8 (tx.d.x0 : Int), .int .u8 (tx.d.x1 : Int), .int .u8 (tx.d.x2 : Int), .int .u8 (tx.d.x3 : Int), .int .u8 (tx.d.x4 : Int), .int .u8 (tx.d.x5 : Int), .int .u8 (tx.d.x6 : Int), .int .u8 (tx.d.x7 : Int), .int .i64 tx.no, .int .i64 tx.fe, .int .i64 tx.ki, .slice tx.A tx.n tx.c, .slice tx.A' tx.n' tx.c'] 34 (0, 0)) ∧ u.heap[b8]? = some (.cells #[.int .u8 (tw.d.x0 : Int), .int .u8 (tw.d.x1 : Int), .int .u8 (tw.d.x2 : Int), .int .u8 (tw.d.x3 : Int), .int .u8 (tw.d.x4 : Int), .int .u8 (tw.d.x5 : Int), .int .u8 (tw.d.x6 : Int), .int .u8 (tw.d.x7 : Int), .int .i64 tw.no, .int .i64 tw.fe, .int .i64 tw.ki, .slice tw.A tw.n tw.c, .slice tw.A' tw.n' tw.c'] 34 (0, 0))) ∧ u.heap[b6]? = some (.cells #[.int .u8 (o.d.x0 : Int), .int .u8 (o.d.x1 : Int), .int .u8 (o.d.x2 : Int), .int .u8 (o.d.x3 : Int), .int .u8 (o.d.x4 : Int), .int .u8 (o.d.x5 : Int), .int .u8 (o.d.x6 : Int), .int .u8 (o.d.x7 : Int), .int .i64 o.no, .int .i64 o.fe, .int .i64 o.ki, .slice o.A o.n o.c, .slice o.A' o.n' o.c'] 26 (0, 0))) ∧ (u.cell? ⟨b12, o12 + 0, none⟩ = some (.int .u8 (md.x0 : Int)) ∧ u.cell? ⟨b12, o12 + 1, none⟩ = some (.int .u8 (md.x1 : Int)) ∧ u.cell? ⟨b12, o12 + 2, none⟩ = some (.int .u8 (md.x2 : Int)) ∧ u.cell? ⟨b12, o12 + 3, none⟩ = some (.int .u8 (md.x3 : Int)) ∧ u.cell? ⟨b12, o12 + 4, none⟩ = some (.int .u8 (md.x4 : Int)) ∧ u.cell? ⟨b12, o12 + 5, none⟩ = some (.int .u8 (md.x5 : Int)) ∧ u.cell? ⟨b12, o12 + 6, none⟩ = some (.int .u8 (md.x6 : Int)) ∧ u.cell? ⟨b12, o12 + 7, none⟩ = some (.int .u8 (md.x7 : Int)))) → (Instr.loadAt 34 (.pointer (some ⟨b10, 0, none⟩))).run Try.prog u = .ok (.agg #[.int .u8 (tx.d.x0 : Int), .int .u8 (tx.d.x1 : Int), .int .u8 (tx.d.x2 : Int), .int .u8 (tx.d.x3 : Int), .int .u8 (tx.d.x4 : Int), .int .u8 (tx.d.x5 : Int), .int .u8 (tx.d.x6 : Int), .int .u8 (tx.d.x7 : Int), .int .i64 tx.no, .int .i64 tx.fe, .int .i64 tx.ki, .slice tx.A tx.n tx.c, .slice tx.A' tx.n' tx.c']) u ∧ (Instr.loadAt 34 (.pointer (some ⟨b8, 0, none⟩))).run Try.prog u = .ok (.agg #[.int .u8 (tw.d.x0 : Int), .int .u8 (tw.d.x1 : Int), .int .u8 (tw.d.x2 : Int), .int .u8 (tw.d.x3 : Int), .int .u8 (tw.d.x4 : Int), .int .u8 (tw.d.x5 : Int), .int .u8 (tw.d.x6 : Int), .int .u8 (tw.d.x7 : Int), .int .i64 tw.no, .int .i64 tw.fe, .int .i64 tw.ki, .slice tw.A tw.n tw.c, .slice tw.A' tw.n' tw.c']) u ∧ (Instr.loadAt 26 (.pointer (some ⟨b6, 0, none⟩))).run Try.prog u = .ok (.agg #[.int .u8 (o.d.x0 : Int), .int .u8 (o.d.x1 : Int), .int .u8 (o.d.x2 : Int), .int .u8 (o.d.x3 : Int), .int .u8 (o.d.x4 : Int), .int .u8 (o.d.x5 : Int), .int .u8 (o.d.x6 : Int), .int .u8 (o.d.x7 : Int), .int .i64 o.no, .int .i64 o.fe, .int .i64 o.ki, .slice o.A o.n o.c, .slice o.A' o.n' o.c']) u ∧ (Instr.loadAt 23 (.pointer (some ⟨b12, o12, none⟩))).run Try.prog u = .ok (.agg #[.int .u8 (md.x0 : Int), .int .u8 (md.x1 : Int), .int .u8 (md.x2 : Int), .int .u8 (md.x3 : Int), .int .u8 (md.x4 : Int), .int .u8 (md.x5 : Int), .int .u8 (md.x6 : Int), .int .u8 (md.x7 : Int)]) u) := fun u h => ⟨loadR h.1.1.1, loadR h.1.1.2, loadX h.1.2, loadD h.2⟩
      have hC1 : Hid (∀ u, tx.At u → tw.At u → Calls Try.prog 19 #[.agg #[.int .u8 (tx.d.x0 : Int), .int .u8 (tx.d.x1 : Int), .int .u8 (tx.d.x2 : Int), .int .u8 (tx.d.x3 : Int), .int .u8 (tx.d.x4 : Int), .int .u8 (tx.d.x5 : Int), .int .u8 (tx.d.x6 : Int), .int .u8 (tx.d.x7 : Int), .int .i64 tx.no, .int .i64 tx.fe, .int .i64 tx.ki, .slice tx.A tx.n tx.c, .slice tx.A' tx.n' tx.c'], .agg #[.int .u8 (tw.d.x0 : Int), .int .u8 (tw.d.x1 : Int), .int .u8 (tw.d.x2 : Int), .int .u8 (tw.d.x3 : Int), .int .u8 (tw.d.x4 : Int), .int .u8 (tw.d.x5 : Int), .int .u8 (tw.d.x6 : Int), .int .u8 (tw.d.x7 : Int), .int .i64 tw.no, .int .i64 tw.fe, .int .i64 tw.ki, .slice tw.A tw.n tw.c, .slice tw.A' tw.n' tw.c']] u fun e w' => e = .returned (.bool true) ∧ Below u.heap.size u w') := fun u h1 h2 => by
        have := rsame_any tx tw u h1 h2
        rw [Hst.out] at this
        exact this
      have hC2 : Hid (∀ u, o.At u → BookAt u (w2.heap.size + 2) (w2.heap.size + 1) w2.heap.size [⟨key, md⟩] → Calls Try.prog 31 #[.agg #[.int .u8 (o.d.x0 : Int), .int .u8 (o.d.x1 : Int), .int .u8 (o.d.x2 : Int), .int .u8 (o.d.x3 : Int), .int .u8 (o.d.x4 : Int), .int .u8 (o.d.x5 : Int), .int .u8 (o.d.x6 : Int), .int .u8 (o.d.x7 : Int), .int .i64 o.no, .int .i64 o.fe, .int .i64 o.ki, .slice o.A o.n o.c, .slice o.A' o.n' o.c'], .iface 57 (.pointer (some ⟨w2.heap.size + 1, 0, none⟩))] u fun e w' => e = .returned (.int .i64 0) ∧ Below u.heap.size u w') := fun u h1 h2 => by
        have := txverify_any o _ _ _ [⟨key, md⟩] u h1 h2 (by simp)
        rw [Hver.out] at this
        exact this
      have hC3 : Hid (∀ u, o.At u → Calls Try.prog 30 #[.agg #[.int .u8 (o.d.x0 : Int), .int .u8 (o.d.x1 : Int), .int .u8 (o.d.x2 : Int), .int .u8 (o.d.x3 : Int), .int .u8 (o.d.x4 : Int), .int .u8 (o.d.x5 : Int), .int .u8 (o.d.x6 : Int), .int .u8 (o.d.x7 : Int), .int .i64 o.no, .int .i64 o.fe, .int .i64 o.ki, .slice o.A o.n o.c, .slice o.A' o.n' o.c']] u fun e w' => e = .returned (.agg #[.int .u8 (md.x0 : Int), .int .u8 (md.x1 : Int), .int .u8 (md.x2 : Int), .int .u8 (md.x3 : Int), .int .u8 (md.x4 : Int), .int .u8 (md.x5 : Int), .int .u8 (md.x6 : Int), .int .u8 (md.x7 : Int)]) ∧ Below u.heap.size u w') := fun u h1 => by
        have := asked_any o u h1
        rw [Hask.out] at this
        exact this
      have hE : ∀ u, (binOp .eql 23 (.agg #[.int .u8 (md.x0 : Int), .int .u8 (md.x1 : Int), .int .u8 (md.x2 : Int), .int .u8 (md.x3 : Int), .int .u8 (md.x4 : Int), .int .u8 (md.x5 : Int), .int .u8 (md.x6 : Int), .int .u8 (md.x7 : Int)]) (.agg #[.int .u8 (md.x0 : Int), .int .u8 (md.x1 : Int), .int .u8 (md.x2 : Int), .int .u8 (md.x3 : Int), .int .u8 (md.x4 : Int), .int .u8 (md.x5 : Int), .int .u8 (md.x6 : Int), .int .u8 (md.x7 : Int)])).run Try.prog u = .ok (.bool true) u := fun u => by
        rw [heq, show eqI [(md.x0 : Int), (md.x1 : Int), (md.x2 : Int), (md.x3 : Int), (md.x4 : Int), (md.x5 : Int), (md.x6 : Int), (md.x7 : Int)] [(md.x0 : Int), (md.x1 : Int), (md.x2 : Int), (md.x3 : Int), (md.x4 : Int), (md.x5 : Int), (md.x6 : Int), (md.x7 : Int)] = true from eqN_iff.2 rfl]
      have hG : ∀ (x y : Operand) u, (eqGuard .eql 23 x y (.agg #[.int .u8 (md.x0 : Int), .int .u8 (md.x1 : Int), .int .u8 (md.x2 : Int), .int .u8 (md.x3 : Int), .int .u8 (md.x4 : Int), .int .u8 (md.x5 : Int), .int .u8 (md.x6 : Int), .int .u8 (md.x7 : Int)]) (.agg #[.int .u8 (md.x0 : Int), .int .u8 (md.x1 : Int), .int .u8 (md.x2 : Int), .int .u8 (md.x3 : Int), .int .u8 (md.x4 : Int), .int .u8 (md.x5 : Int), .int .u8 (md.x6 : Int), .int .u8 (md.x7 : Int)])).run Try.prog u = .ok () u := fun x y u => by first | (go_simp; done) | exact run_eqGuard_agg _ _ _ _ _ _ (by kernel_rfl)
      have hq8 := (Below.refl v8.heap.size v8).drew
      have HSa := Lib.hid (Hkeep.out _ _ hq8 (Nat.le_refl _) hS8)
      have HQa := Lib.hid hq8
      have hn2 : decide ((0 : Int) < (o.n' : Int)) = true := decide_eq_true (by rw [Hosi.out]; decide)
      have hn3 : decide (0 < o.n') = true := decide_eq_true (by rw [Hosi.out]; decide)
      have hSd := Hcells.out _ HSa.out
      clear r0 r1 r2 r3 r4 r5 r6 r7 hS8 hq8 heq Hst Hver Hask Hsg HX8 HR8 HY8 hb12
      clear HSo HO Ew
      go_upto_region 15 with fail
      generalize Value.agg #[.int .u8 (tx.d.x0 : Int), .int .u8 (tx.d.x1 : Int), .int .u8 (tx.d.x2 : Int), .int .u8 (tx.d.x3 : Int), .int .u8 (tx.d.x4 : Int), .int .u8 (tx.d.x5 : Int), .int .u8 (tx.d.x6 : Int), .int .u8 (tx.d.x7 : Int), .int .i64 tx.no, .int .i64 tx.fe, .int .i64 tx.ki, .slice tx.A tx.n tx.c, .slice tx.A' tx.n' tx.c'] = Vx at *
      generalize Value.agg #[.int .u8 (tw.d.x0 : Int), .int .u8 (tw.d.x1 : Int), .int .u8 (tw.d.x2 : Int), .int .u8 (tw.d.x3 : Int), .int .u8 (tw.d.x4 : Int), .int .u8 (tw.d.x5 : Int), .int .u8 (tw.d.x6 : Int), .int .u8 (tw.d.x7 : Int), .int .i64 tw.no, .int .i64 tw.fe, .int .i64 tw.ki, .slice tw.A tw.n tw.c, .slice tw.A' tw.n' tw.c'] = Vw at *
      generalize Value.agg #[.int .u8 (o.d.x0 : Int), .int .u8 (o.d.x1 : Int), .int .u8 (o.d.x2 : Int), .int .u8 (o.d.x3 : Int), .int .u8 (o.d.x4 : Int), .int .u8 (o.d.x5 : Int), .int .u8 (o.d.x6 : Int), .int .u8 (o.d.x7 : Int), .int .i64 o.no, .int .i64 o.fe, .int .i64 o.ki, .slice o.A o.n o.c, .slice o.A' o.n' o.c'] = Vo at *
      generalize Value.agg #[.int .u8 (md.x0 : Int), .int .u8 (md.x1 : Int), .int .u8 (md.x2 : Int), .int .u8 (md.x3 : Int), .int .u8 (md.x4 : Int), .int .u8 (md.x5 : Int), .int .u8 (md.x6 : Int), .int .u8 (md.x7 : Int)] = Vd at *
      generalize Value.agg #[.int .u8 (t.d.x0 : Int), .int .u8 (t.d.x1 : Int), .int .u8 (t.d.x2 : Int), .int .u8 (t.d.x3 : Int), .int .u8 (t.d.x4 : Int), .int .u8 (t.d.x5 : Int), .int .u8 (t.d.x6 : Int), .int .u8 (t.d.x7 : Int), .int .i64 t.no, .int .i64 t.fe, .int .i64 t.ki, .slice t.A t.n t.c, .slice t.A' t.n' t.c'] = Vt at *
      generalize Value.agg #[.int .u8 (key.x0 : Int), .int .u8 (key.x1 : Int), .int .u8 (key.x2 : Int), .int .u8 (key.x3 : Int), .int .u8 (key.x4 : Int), .int .u8 (key.x5 : Int), .int .u8 (key.x6 : Int), .int .u8 (key.x7 : Int)] = Vk at *
      refine wp_region_held_drew (S := fun w' => (Instr.loadAt 34 (.pointer (some ⟨b10, 0, none⟩))).run Try.prog w' = .ok Vx w' ∧ (Instr.loadAt 34 (.pointer (some ⟨b8, 0, none⟩))).run Try.prog w' = .ok Vw w' ∧ (Instr.loadAt 26 (.pointer (some ⟨b6, 0, none⟩))).run Try.prog w' = .ok Vo w' ∧ (Instr.loadAt 23 (.pointer (some ⟨b12, o12, none⟩))).run Try.prog w' = .ok Vd w') (by kernel_rfl) hSd (fun hHeld => ?_)
      rw [show Array.replicate _ false = (#[false, false, false, false, false, false, false, false, false, false, false, false, false, false, false, false, false, false, false, false, false, false, false, false, false, false, false, false, false, false, false, false, false, false, false, false] : Array Bool) from rfl]
      refine wpAnyH_ready (rs := [0]) (by kernel_rfl) (by simp) ?_
      refine AllReadyH.cons rfl (fun K hK => ?_) AllReadyH.nil
      rw [if_pos (by kernel_rfl)]
      go_simp
      refine (known_any v8.drew).mono ?_
      rintro e v9 ⟨rfl, hb⟩
      have HSb := Lib.hid (Hkeep.out _ _ hb HQa.out.size HSa.out)
      have HQb := Lib.hid (HQa.out.trans (hb.mono HQa.out.size))
      have hSn := Hcells.out _ HSb.out
      refine hK.out _ _ hSn (fun _ => ?_)
      clear hK K hb
      simp only [List.setIfInBounds_toArray, List.set_cons_zero, List.set_cons_succ]
      refine takeH 1 (some 62) (v := ?_) rfl (by kernel_rfl) (by kernel_rfl) (by kernel_rfl) (by kernel_rfl) (fun _ _ _ h => h) (Or.inl ⟨by kernel_rfl, ?hy⟩) (by assumption) ?_
      case hy =>
        intro w' hSw
        try dsimp only at hSw
        obtain ⟨l1, l2, l3, l4⟩ := hSw
        first
          | (go_simp; done)
          | (go_simp; with_reducible rfl)
      simp only [Act.put, List.setIfInBounds_toArray, List.set_cons_zero, List.set_cons_succ]
      refine takeH 2 (some 63) (v := ?_) rfl (by kernel_rfl) (by kernel_rfl) (by kernel_rfl) (by kernel_rfl) (fun _ _ _ h => h) (Or.inl ⟨by kernel_rfl, ?hy⟩) (by assumption) ?_
      case hy =>
        intro w' hSw
        try dsimp only at hSw
        obtain ⟨l1, l2, l3, l4⟩ := hSw
        first
          | (go_simp; done)
          | (go_simp; with_reducible rfl)
      simp only [Act.put, List.setIfInBounds_toArray, List.set_cons_zero, List.set_cons_succ]
      refine takeH 3 (some 64) (v := ?_) rfl (by kernel_rfl) (by kernel_rfl) (by kernel_rfl) (by kernel_rfl) (fun _ _ _ h => h) (Or.inl ⟨by kernel_rfl, ?hy⟩) (by assumption) ?_
      case hy =>
        intro w' hSw
        try dsimp only at hSw
        obtain ⟨l1, l2, l3, l4⟩ := hSw
        first
          | (go_simp; done)
          | (go_simp; with_reducible rfl)
      simp only [Act.put, List.setIfInBounds_toArray, List.set_cons_zero, List.set_cons_succ]
      refine takeH 4 (some 65) (v := ?_) rfl (by kernel_rfl) (by kernel_rfl) (by kernel_rfl) (by kernel_rfl) (fun _ _ _ h => h) (Or.inl ⟨by kernel_rfl, ?hy⟩) (by assumption) ?_
      case hy =>
        intro w' hSw
        try dsimp only at hSw
        obtain ⟨l1, l2, l3, l4⟩ := hSw
        first
          | (go_simp; done)
          | (go_simp; with_reducible rfl)
      simp only [Act.put, List.setIfInBounds_toArray, List.set_cons_zero, List.set_cons_succ]
      refine takeH 5 (some 66) (v := ?_) rfl (by kernel_rfl) (by kernel_rfl) (by kernel_rfl) (by kernel_rfl) (fun _ _ _ h => h) (Or.inl ⟨by kernel_rfl, ?hy⟩) (by assumption) ?_
      case hy =>
        intro w' hSw
        try dsimp only at hSw
        obtain ⟨l1, l2, l3, l4⟩ := hSw
        first
          | (go_simp; done)
          | (go_simp; with_reducible rfl)
      simp only [Act.put, List.setIfInBounds_toArray, List.set_cons_zero, List.set_cons_succ]
      refine takeH 6 (some 67) (v := Vx) rfl (by kernel_rfl) (by kernel_rfl) (by kernel_rfl) (by kernel_rfl) (fun _ _ _ h => h) (Or.inl ⟨by kernel_rfl, ?hy⟩) (by assumption) ?_
      case hy =>
        intro w' hSw
        try dsimp only at hSw
        obtain ⟨l1, l2, l3, l4⟩ := hSw
        simp [execOp, Act.eval, l1, Result.andThen]
      simp only [Act.put, List.setIfInBounds_toArray, List.set_cons_zero, List.set_cons_succ]
      refine takeH 7 (some 68) (v := Vw) rfl (by kernel_rfl) (by kernel_rfl) (by kernel_rfl) (by kernel_rfl) (fun _ _ _ h => h) (Or.inl ⟨by kernel_rfl, ?hy⟩) (by assumption) ?_
      case hy =>
        intro w' hSw
        try dsimp only at hSw
        obtain ⟨l1, l2, l3, l4⟩ := hSw
        simp [execOp, Act.eval, l2, Result.andThen]
      simp only [Act.put, List.setIfInBounds_toArray, List.set_cons_zero, List.set_cons_succ]
      refine wpAnyH_ready (rs := [8]) (by kernel_rfl) (by simp) ?_
      refine AllReadyH.cons rfl (fun K hK => ?_) AllReadyH.nil
      rw [if_pos (by kernel_rfl)]
      go_simp
      refine (hC1.out v9 (HxA8.out.up HQb.out) (HwA8.out.up HQb.out)).mono ?_
      rintro e v10 ⟨rfl, hb⟩
      have HSc := Lib.hid (Hkeep.out _ _ hb HQb.out.size HSb.out)
      have HQc := Lib.hid (HQb.out.trans (hb.mono HQb.out.size))
      have hSn := Hcells.out _ HSc.out
      refine hK.out _ _ hSn (fun _ => ?_)
      clear hK K hb
      simp only [List.setIfInBounds_toArray, List.set_cons_zero, List.set_cons_succ]
      refine takeH 9 (some 70) (v := ?_) rfl (by kernel_rfl) (by kernel_rfl) (by kernel_rfl) (by kernel_rfl) (fun _ _ _ h => h) (Or.inl ⟨by kernel_rfl, ?hy⟩) (by assumption) ?_
      case hy =>
        intro w' hSw
        try dsimp only at hSw
        obtain ⟨l1, l2, l3, l4⟩ := hSw
        first
          | (go_simp; done)
          | (go_simp; with_reducible rfl)
      simp only [Act.put, List.setIfInBounds_toArray, List.set_cons_zero, List.set_cons_succ]
      refine takeH 10 (some 71) (v := ?_) rfl (by kernel_rfl) (by kernel_rfl) (by kernel_rfl) (by kernel_rfl) (fun _ _ _ h => h) (Or.inl ⟨by kernel_rfl, ?hy⟩) (by assumption) ?_
      case hy =>
        intro w' hSw
        try dsimp only at hSw
        obtain ⟨l1, l2, l3, l4⟩ := hSw
        first
          | (go_simp; done)
          | (go_simp; with_reducible rfl)
      simp only [Act.put, List.setIfInBounds_toArray, List.set_cons_zero, List.set_cons_succ]
      refine takeH 11 (some 72) (v := ?_) rfl (by kernel_rfl) (by kernel_rfl) (by kernel_rfl) (by kernel_rfl) (fun _ _ _ h => h) (Or.inl ⟨by kernel_rfl, ?hy⟩) (by assumption) ?_
      case hy =>
        intro w' hSw
        try dsimp only at hSw
        obtain ⟨l1, l2, l3, l4⟩ := hSw
        first
          | (go_simp; done)
          | (go_simp; with_reducible rfl)
      simp only [Act.put, List.setIfInBounds_toArray, List.set_cons_zero, List.set_cons_succ]
      refine takeH 12 (some 73) (v := ?_) rfl (by kernel_rfl) (by kernel_rfl) (by kernel_rfl) (by kernel_rfl) (fun _ _ _ h => h) (Or.inl ⟨by kernel_rfl, ?hy⟩) (by assumption) ?_
      case hy =>
        intro w' hSw
        try dsimp only at hSw
        obtain ⟨l1, l2, l3, l4⟩ := hSw
        first
          | (go_simp; done)
          | (go_simp; with_reducible rfl)
      simp only [Act.put, List.setIfInBounds_toArray, List.set_cons_zero, List.set_cons_succ]
      refine takeH 13 (some 74) (v := ?_) rfl (by kernel_rfl) (by kernel_rfl) (by kernel_rfl) (by kernel_rfl) (fun _ _ _ h => h) (Or.inl ⟨by kernel_rfl, ?hy⟩) (by assumption) ?_
      case hy =>
        intro w' hSw
        try dsimp only at hSw
        obtain ⟨l1, l2, l3, l4⟩ := hSw
        first
          | (go_simp; done)
          | (go_simp; with_reducible rfl)
      simp only [Act.put, List.setIfInBounds_toArray, List.set_cons_zero, List.set_cons_succ]
      refine takeH 14 (some 75) (v := ?_) rfl (by kernel_rfl) (by kernel_rfl) (by kernel_rfl) (by kernel_rfl) (fun _ _ _ h => h) (Or.inl ⟨by kernel_rfl, ?hy⟩) (by assumption) ?_
      case hy =>
        intro w' hSw
        try dsimp only at hSw
        obtain ⟨l1, l2, l3, l4⟩ := hSw
        first
          | (go_simp; done)
          | (go_simp; with_reducible rfl)
      simp only [Act.put, List.setIfInBounds_toArray, List.set_cons_zero, List.set_cons_succ]
      refine takeH 15 (some 76) (v := ?_) rfl (by kernel_rfl) (by kernel_rfl) (by kernel_rfl) (by kernel_rfl) (fun _ _ _ h => h) (Or.inl ⟨by kernel_rfl, ?hy⟩) (by assumption) ?_
      case hy =>
        intro w' hSw
        try dsimp only at hSw
        obtain ⟨l1, l2, l3, l4⟩ := hSw
        first
          | (go_simp; done)
          | (go_simp; with_reducible rfl)
      simp only [Act.put, List.setIfInBounds_toArray, List.set_cons_zero, List.set_cons_succ]
      refine takeH 16 (some 77) (v := Vo) rfl (by kernel_rfl) (by kernel_rfl) (by kernel_rfl) (by kernel_rfl) (fun _ _ _ h => h) (Or.inl ⟨by kernel_rfl, ?hy⟩) (by assumption) ?_
      case hy =>
        intro w' hSw
        try dsimp only at hSw
        obtain ⟨l1, l2, l3, l4⟩ := hSw
        simp [execOp, Act.eval, l3, Result.andThen]
      simp only [Act.put, List.setIfInBounds_toArray, List.set_cons_zero, List.set_cons_succ]
      refine takeH 17 (some 78) (v := ?_) rfl (by kernel_rfl) (by kernel_rfl) (by kernel_rfl) (by kernel_rfl) (fun _ _ _ h => h) (Or.inl ⟨by kernel_rfl, ?hy⟩) (by assumption) ?_
      case hy =>
        intro w' hSw
        try dsimp only at hSw
        obtain ⟨l1, l2, l3, l4⟩ := hSw
        first
          | (go_simp; done)
          | (go_simp; with_reducible rfl)
      simp only [Act.put, List.setIfInBounds_toArray, List.set_cons_zero, List.set_cons_succ]
      refine takeH 18 (some 79) (v := ?_) rfl (by kernel_rfl) (by kernel_rfl) (by kernel_rfl) (by kernel_rfl) (fun _ _ _ h => h) (Or.inl ⟨by kernel_rfl, ?hy⟩) (by assumption) ?_
      case hy =>
        intro w' hSw
        try dsimp only at hSw
        obtain ⟨l1, l2, l3, l4⟩ := hSw
        first
          | (go_simp; done)
          | (go_simp; with_reducible rfl)
      simp only [Act.put, List.setIfInBounds_toArray, List.set_cons_zero, List.set_cons_succ]
      refine wpAnyH_ready (rs := [19]) (by kernel_rfl) (by simp) ?_
      refine AllReadyH.cons rfl (fun K hK => ?_) AllReadyH.nil
      rw [if_pos (by kernel_rfl)]
      go_simp
      refine (hC2.out v10 (HoA8.out.up HQc.out) (HBk8.out.below HQc.out)).mono ?_
      rintro e v11 ⟨rfl, hb⟩
      have HSd := Lib.hid (Hkeep.out _ _ hb HQc.out.size HSc.out)
      have HQd := Lib.hid (HQc.out.trans (hb.mono HQc.out.size))
      have hSn := Hcells.out _ HSd.out
      refine hK.out _ _ hSn (fun _ => ?_)
      clear hK K hb
      simp only [List.setIfInBounds_toArray, List.set_cons_zero, List.set_cons_succ]
      refine takeH 20 (some 81) (v := ?_) rfl (by kernel_rfl) (by kernel_rfl) (by kernel_rfl) (by kernel_rfl) (fun _ _ _ h => h) (Or.inl ⟨by kernel_rfl, ?hy⟩) (by assumption) ?_
      case hy =>
        intro w' hSw
        try dsimp only at hSw
        obtain ⟨l1, l2, l3, l4⟩ := hSw
        first
          | (go_simp; done)
          | (go_simp; with_reducible rfl)
      simp only [Act.put, List.setIfInBounds_toArray, List.set_cons_zero, List.set_cons_succ]
      refine takeH 21 (some 82) (v := ?_) rfl (by kernel_rfl) (by kernel_rfl) (by kernel_rfl) (by kernel_rfl) (fun _ _ _ h => h) (Or.inl ⟨by kernel_rfl, ?hy⟩) (by assumption) ?_
      case hy =>
        intro w' hSw
        try dsimp only at hSw
        obtain ⟨l1, l2, l3, l4⟩ := hSw
        first
          | (go_simp; done)
          | (go_simp; with_reducible rfl)
      simp only [Act.put, List.setIfInBounds_toArray, List.set_cons_zero, List.set_cons_succ]
      refine takeH 22 (some 83) (v := ?_) rfl (by kernel_rfl) (by kernel_rfl) (by kernel_rfl) (by kernel_rfl) (fun _ _ _ h => h) (Or.inl ⟨by kernel_rfl, ?hy⟩) (by assumption) ?_
      case hy =>
        intro w' hSw
        try dsimp only at hSw
        obtain ⟨l1, l2, l3, l4⟩ := hSw
        first
          | (go_simp; done)
          | (go_simp; with_reducible rfl)
      simp only [Act.put, List.setIfInBounds_toArray, List.set_cons_zero, List.set_cons_succ]
      refine takeH 23 (some 84) (v := ?_) rfl (by kernel_rfl) (by kernel_rfl) (by kernel_rfl) (by kernel_rfl) (fun _ _ _ h => h) (Or.inl ⟨by kernel_rfl, ?hy⟩) (by assumption) ?_
      case hy =>
        intro w' hSw
        try dsimp only at hSw
        obtain ⟨l1, l2, l3, l4⟩ := hSw
        first
          | (go_simp; done)
          | (go_simp; with_reducible rfl)
      simp only [Act.put, List.setIfInBounds_toArray, List.set_cons_zero, List.set_cons_succ]
      refine takeH 24 (some 85) (v := ?_) rfl (by kernel_rfl) (by kernel_rfl) (by kernel_rfl) (by kernel_rfl) (fun _ _ _ h => h) (Or.inl ⟨by kernel_rfl, ?hy⟩) (by assumption) ?_
      case hy =>
        intro w' hSw
        try dsimp only at hSw
        obtain ⟨l1, l2, l3, l4⟩ := hSw
        first
          | (go_simp; done)
          | (go_simp; with_reducible rfl)
      simp only [Act.put, List.setIfInBounds_toArray, List.set_cons_zero, List.set_cons_succ]
      refine takeH 25 (some 86) (v := ?_) rfl (by kernel_rfl) (by kernel_rfl) (by kernel_rfl) (by kernel_rfl) (fun _ _ _ h => h) (Or.inl ⟨by kernel_rfl, ?hy⟩) (by assumption) ?_
      case hy =>
        intro w' hSw
        try dsimp only at hSw
        obtain ⟨l1, l2, l3, l4⟩ := hSw
        first
          | (go_simp; done)
          | (go_simp; with_reducible rfl)
      simp only [Act.put, List.setIfInBounds_toArray, List.set_cons_zero, List.set_cons_succ]
      refine takeH 26 (some 87) (v := ?_) rfl (by kernel_rfl) (by kernel_rfl) (by kernel_rfl) (by kernel_rfl) (fun _ _ _ h => h) (Or.inl ⟨by kernel_rfl, ?hy⟩) (by assumption) ?_
      case hy =>
        intro w' hSw
        try dsimp only at hSw
        obtain ⟨l1, l2, l3, l4⟩ := hSw
        first
          | (go_simp; done)
          | (go_simp; with_reducible rfl)
      simp only [Act.put, List.setIfInBounds_toArray, List.set_cons_zero, List.set_cons_succ]
      refine takeH 27 (some 88) (v := ?_) rfl (by kernel_rfl) (by kernel_rfl) (by kernel_rfl) (by kernel_rfl) (fun _ _ _ h => h) (Or.inl ⟨by kernel_rfl, ?hy⟩) (by assumption) ?_
      case hy =>
        intro w' hSw
        try dsimp only at hSw
        obtain ⟨l1, l2, l3, l4⟩ := hSw
        first
          | (go_simp; done)
          | (go_simp; with_reducible rfl)
      simp only [Act.put, List.setIfInBounds_toArray, List.set_cons_zero, List.set_cons_succ]
      refine takeH 28 (some 89) (v := ?_) rfl (by kernel_rfl) (by kernel_rfl) (by kernel_rfl) (by kernel_rfl) (fun _ _ _ h => h) (Or.inl ⟨by kernel_rfl, ?hy⟩) (by assumption) ?_
      case hy =>
        intro w' hSw
        try dsimp only at hSw
        obtain ⟨l1, l2, l3, l4⟩ := hSw
        first
          | (go_simp; done)
          | (go_simp; with_reducible rfl)
      simp only [Act.put, List.setIfInBounds_toArray, List.set_cons_zero, List.set_cons_succ]
      refine takeH 29 (some 90) (v := ?_) rfl (by kernel_rfl) (by kernel_rfl) (by kernel_rfl) (by kernel_rfl) (fun _ _ _ h => h) (Or.inl ⟨by kernel_rfl, ?hy⟩) (by assumption) ?_
      case hy =>
        intro w' hSw
        try dsimp only at hSw
        obtain ⟨l1, l2, l3, l4⟩ := hSw
        first
          | (go_simp; done)
          | (go_simp; with_reducible rfl)
      simp only [Act.put, List.setIfInBounds_toArray, List.set_cons_zero, List.set_cons_succ]
      refine takeH 30 (some 91) (v := Vd) rfl (by kernel_rfl) (by kernel_rfl) (by kernel_rfl) (by kernel_rfl) (fun _ _ _ h => h) (Or.inl ⟨by kernel_rfl, ?hy⟩) (by assumption) ?_
      case hy =>
        intro w' hSw
        try dsimp only at hSw
        obtain ⟨l1, l2, l3, l4⟩ := hSw
        simp [execOp, Act.eval, l4, Result.andThen]
      simp only [Act.put, List.setIfInBounds_toArray, List.set_cons_zero, List.set_cons_succ]
      refine takeH 31 (some 92) (v := Vo) rfl (by kernel_rfl) (by kernel_rfl) (by kernel_rfl) (by kernel_rfl) (fun _ _ _ h => h) (Or.inl ⟨by kernel_rfl, ?hy⟩) (by assumption) ?_
      case hy =>
        intro w' hSw
        try dsimp only at hSw
        obtain ⟨l1, l2, l3, l4⟩ := hSw
        simp [execOp, Act.eval, l3, Result.andThen]
      simp only [Act.put, List.setIfInBounds_toArray, List.set_cons_zero, List.set_cons_succ]
      refine wpAnyH_ready (rs := [32]) (by kernel_rfl) (by simp) ?_
      refine AllReadyH.cons rfl (fun K hK => ?_) AllReadyH.nil
      rw [if_pos (by kernel_rfl)]
      go_simp
      refine (hC3.out v11 (HoA8.out.up HQd.out)).mono ?_
      rintro e v12 ⟨rfl, hb⟩
      have HSe := Lib.hid (Hkeep.out _ _ hb HQd.out.size HSd.out)
      have HQe := Lib.hid (HQd.out.trans (hb.mono HQd.out.size))
      have hSn := Hcells.out _ HSe.out
      refine hK.out _ _ hSn (fun _ => ?_)
      clear hK K hb
      simp only [List.setIfInBounds_toArray, List.set_cons_zero, List.set_cons_succ]
      refine takeH 33 (some 94) (v := .bool true) rfl (by kernel_rfl) (by kernel_rfl) (by kernel_rfl) (by kernel_rfl) (fun _ _ _ h => h) (Or.inl ⟨by kernel_rfl, fun w' _ => exec_bin (by rfl) (by rfl) (by rfl) (hG _ _ w') (hE w')⟩) (by assumption) ?_
      simp only [Act.put, List.setIfInBounds_toArray, List.set_cons_zero, List.set_cons_succ]
      refine takeH 34 (some 95) (v := ?_) rfl (by kernel_rfl) (by kernel_rfl) (by kernel_rfl) (by kernel_rfl) (fun _ _ _ h => h) (Or.inl ⟨by kernel_rfl, ?hy⟩) (by assumption) ?_
      case hy =>
        intro w' hSw
        try dsimp only at hSw
        obtain ⟨l1, l2, l3, l4⟩ := hSw
        first
          | (go_simp; done)
          | (go_simp; with_reducible rfl)
      simp only [Act.put, List.setIfInBounds_toArray, List.set_cons_zero, List.set_cons_succ]
      refine takeH 35 (some 4) (v := ?_) rfl (by kernel_rfl) (by kernel_rfl) (by kernel_rfl) (by kernel_rfl) (fun _ _ _ h => h) (Or.inl ⟨by kernel_rfl, ?hy⟩) (by assumption) ?_
      case hy =>
        intro w' hSw
        try dsimp only at hSw
        obtain ⟨l1, l2, l3, l4⟩ := hSw
        first
          | (go_simp; done)
          | (go_simp; with_reducible rfl)
      simp only [Act.put, List.setIfInBounds_toArray, List.set_cons_zero, List.set_cons_succ]
      refine wpAnyH_done (by kernel_rfl) ?_ _
      go_wp2
      go_ret
      exact ⟨rfl, Hw8.out.trans (HQe.out.mono Hw8.out.size)⟩
    · have e1 : (err != 0) = true := by simpa using he
      have e2 : (err == err) = true := by simp
      have e3 : decide (err = err) = true := by simp
      obtain ⟨_, (⟨h0, _⟩ | ⟨_, ho, hL⟩)⟩ := HSo.out
      · exact absurd h0 he
      subst ho hL
      clear he
      go_wp2_with fail
      refine (known_any v4).mono ?_
      rintro e v5 ⟨rfl, hb⟩
      have HX5 := Lib.hid (HX4.out.below hb); have HBk5 := Lib.hid (HBk4.out.below hb); have HD5 := Lib.hid (HD4.out.below hb); have Hw5 := Lib.hid (Hw4.out.trans (hb.mono Hw4.out.size))
      clear hb HX4 HBk4 HD4 Hw4
      obtain ⟨y0, y1, y2, y3, y4, y5, y6, y7, y8, y9, y10, y11, y12⟩ := HX5.out.all
      go_wp2_with fail
      refine (tsame_any txZ txZ v5 (txZ_at _) (txZ_at _)).mono ?_
      rintro e v6 ⟨rfl, hb⟩
      rw [sameT_self]
      have HBk6 := Lib.hid (HBk5.out.below hb); have HD6 := Lib.hid (HD5.out.below hb); have Hw6 := Lib.hid (Hw5.out.trans (hb.mono Hw5.out.size))
      clear hb HX5 HBk5 HD5 Hw5 y0 y1 y2 y3 y4 y5 y6 y7 y8 y9 y10 y11 y12
      obtain ⟨q0, q1, q2, q3, q4, q5, q6, q7⟩ := HD6.out.all
      go_wp2_with fail
      refine (signed_any _ _ _ [] key v6 HBk6.out (by decide)).mono ?_
      rintro e v7 ⟨A7, n7, c7, rfl, ho, hb⟩
      have h7 : n7 = 0 := by have := ho.1; simp [signedE, flatD] at this; omega
      subst h7
      have Hw7 := Lib.hid (Hw6.out.trans (hb.mono Hw6.out.size))
      clear hb ho
      go_wp2
      go_ret
      exact ⟨rfl, Hw7.out⟩
end Go.Proofs.Ytebepgoaofhelaa
