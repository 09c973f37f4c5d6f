/- A transaction signed by a signer of a book: the walk of Sign. Conditions: bounds on the bytes, room in the book. -/
import Derived.Test.YtebepgoaofhelaaTxAk
import Derived.Test.YtebepgoaofhelaaTxPays
namespace Go.Proofs.Ytebepgoaofhelaa
open Go.RowKit Go.Lib


def TxV.withKey (t : TxV) (k : D8) : TxV := ⟨k, t.no, t.fe, t.ki, t.A, t.n, t.c, t.A', t.n', t.c', t.bo, t.si⟩
def TxV.withSig (t : TxV) (A : Option Addr) (n c : Nat) (s : List Nat) : TxV := ⟨t.d, t.no, t.fe, t.ki, t.A, t.n, t.c, A, n, c, t.bo, s⟩
def txZ : TxV := ⟨d0, 0, 0, 0, none, 0, 0, none, 0, 0, [], []⟩
theorem setKey {w : World} {b : Nat} {t : TxV} (h : Box t w b) (k : D8) : Box (t.withKey k) (((((((((w.setCell ⟨b, 0, none⟩ (.int .u8 (k.x0 : Int))).setCell ⟨b, 1, none⟩ (.int .u8 (k.x1 : Int))).setCell ⟨b, 2, none⟩ (.int .u8 (k.x2 : Int))).setCell ⟨b, 3, none⟩ (.int .u8 (k.x3 : Int))).setCell ⟨b, 4, none⟩ (.int .u8 (k.x4 : Int))).setCell ⟨b, 5, none⟩ (.int .u8 (k.x5 : Int))).setCell ⟨b, 6, none⟩ (.int .u8 (k.x6 : Int))).setCell ⟨b, 7, none⟩ (.int .u8 (k.x7 : Int)))) b ∧ w.grownBy (((((((((w.setCell ⟨b, 0, none⟩ (.int .u8 (k.x0 : Int))).setCell ⟨b, 1, none⟩ (.int .u8 (k.x1 : Int))).setCell ⟨b, 2, none⟩ (.int .u8 (k.x2 : Int))).setCell ⟨b, 3, none⟩ (.int .u8 (k.x3 : Int))).setCell ⟨b, 4, none⟩ (.int .u8 (k.x4 : Int))).setCell ⟨b, 5, none⟩ (.int .u8 (k.x5 : Int))).setCell ⟨b, 6, none⟩ (.int .u8 (k.x6 : Int))).setCell ⟨b, 7, none⟩ (.int .u8 (k.x7 : Int)))) (some b) := by
  refine ⟨?_, (((((((grown_set1 w b 0 _).trans (grown_set1 _ b 1 _)).trans (grown_set1 _ b 2 _)).trans (grown_set1 _ b 3 _)).trans (grown_set1 _ b 4 _)).trans (grown_set1 _ b 5 _)).trans (grown_set1 _ b 6 _)).trans (grown_set1 _ b 7 _)⟩
  have h1 := Joins.block_setCell (i := 0) h (.int .u8 (k.x0 : Int))
  have h2 := Joins.block_setCell (i := 1) h1 (.int .u8 (k.x1 : Int))
  have h3 := Joins.block_setCell (i := 2) h2 (.int .u8 (k.x2 : Int))
  have h4 := Joins.block_setCell (i := 3) h3 (.int .u8 (k.x3 : Int))
  have h5 := Joins.block_setCell (i := 4) h4 (.int .u8 (k.x4 : Int))
  have h6 := Joins.block_setCell (i := 5) h5 (.int .u8 (k.x5 : Int))
  have h7 := Joins.block_setCell (i := 6) h6 (.int .u8 (k.x6 : Int))
  have h8 := Joins.block_setCell (i := 7) h7 (.int .u8 (k.x7 : Int))
  unfold Box TxV.withKey
  simpa using h8
theorem setSig {w : World} {b : Nat} {t : TxV} (h : Box t w b) (A : Option Addr) (n c : Nat) (s : List Nat) : Box (t.withSig A n c s) (w.setCell ⟨b, 12, none⟩ (.slice A n c)) b ∧ w.grownBy (w.setCell ⟨b, 12, none⟩ (.slice A n c)) (some b) := by
  refine ⟨?_, grown_set1 w b 12 _⟩
  have h1 := Joins.block_setCell (i := 12) h (.slice A n c)
  unfold Box TxV.withSig
  simpa using h1
theorem own_box {w w' : World} {base n b : Nat} {v : Value} {xs : List Value} {t : TxV} (ho : w.ownsRow base 5 1 v n xs) (hb : Box t w b) (hg : w.grownBy w' (some b)) : w'.ownsRow base 5 1 v n xs := ho.kept hg (.inr (fun e => own_ne ho hb (by decide) e.symm))
theorem BookAt.box {w w' : World} {B bk mb b : Nat} {L : List En} {t : TxV} (h : BookAt w B bk mb L) (hb : Box t w b) (hg : w.grownBy w' (some b)) : BookAt w' B bk mb L := by
  obtain ⟨A, n, c, h1, ho⟩ := h.book
  have hne : b ≠ bk := by
    rintro rfl
    have hb' : w.heap[b]? = some (.cells #[.int .u8 (t.d.x0 : Int), .int .u8 (t.d.x1 : Int), .int .u8 (t.d.x2 : Int), .int .u8 (t.d.x3 : Int), .int .u8 (t.d.x4 : Int), .int .u8 (t.d.x5 : Int), .int .u8 (t.d.x6 : Int), .int .u8 (t.d.x7 : Int), .int .i64 t.no, .int .i64 t.fe, .int .i64 t.ki, .slice t.A t.n t.c, .slice t.A' t.n' t.c'] 26 (0, 0)) := hb
    rw [hb'] at h1
    injection h1 with h1
    injection h1 with _ h1
    exact absurd h1 (by decide)
  have hnm : b ≠ mb := by
    rintro rfl
    obtain ⟨es, cl, h2, _⟩ := h.places
    have hb' : w.heap[b]? = some (.cells #[.int .u8 (t.d.x0 : Int), .int .u8 (t.d.x1 : Int), .int .u8 (t.d.x2 : Int), .int .u8 (t.d.x3 : Int), .int .u8 (t.d.x4 : Int), .int .u8 (t.d.x5 : Int), .int .u8 (t.d.x6 : Int), .int .u8 (t.d.x7 : Int), .int .i64 t.no, .int .i64 t.fe, .int .i64 t.ki, .slice t.A t.n t.c, .slice t.A' t.n' t.c'] 26 (0, 0)) := hb
    rw [hb'] at h2
    simp at h2
  exact ⟨⟨A, n, c, block_grown h1 hg (by intro e; injection e with e; exact hne e.symm), ho.kept hg (.inr (fun e => own_ne ho hb (by decide) e.symm))⟩, h.places.same (hg.block mb h.places.lt (by intro e; injection e with e; exact hnm e.symm)), h.lb, h.lm, Nat.le_trans h.hB hg.size, h.nodup, h.ok⟩
theorem Kept.low2 {w w1 w2 : World} {bk mb : Nat} (h : Kept w w1 bk mb) (hb : Below w.heap.size w1 w2) (hbl : bk < w.heap.size) : Kept w w2 bk mb :=
  ⟨hb.os.trans h.os, hb.tape.trans h.tape, hb.output.trans h.output, Nat.le_trans h.size hb.size, fun k h1 h2 => (hb.block k (by omega)).trans (h.low k h1 h2), fun k cs t fz a b c => (hb.block k (block_lt a)).trans (h.typed k cs t fz a b c), fun k es cl a b c => (hb.block k (block_lt a)).trans (h.maps k es cl a b c)⟩
theorem Kept.ownU {w w' : World} {B bk mb base n : Nat} {L : List En} {v : Value} {xs : List Value} (h : Kept w w' bk mb) (hB : BookAt w B bk mb L) (ho : w.ownsRow base 5 1 v n xs) : w'.ownsRow base 5 1 v n xs := by
  obtain ⟨A, m, c, h1, _⟩ := hB.book
  refine h.own ho (by decide) (fun cs e => ?_)
  rw [h1] at e
  injection e with e
  injection e with _ e
  exact absurd e (by decide)
theorem Kept.boxT {w w' : World} {B bk mb b : Nat} {L : List En} {t : TxV} (h : Kept w w' bk mb) (hB : BookAt w B bk mb L) (hb : Box t w b) : Box t w' b := by
  obtain ⟨A, m, c, h1, _⟩ := hB.book
  refine h.typed b _ _ _ hb (by decide) ?_
  rintro rfl
  have hb' : w.heap[b]? = some (.cells #[.int .u8 (t.d.x0 : Int), .int .u8 (t.d.x1 : Int), .int .u8 (t.d.x2 : Int), .int .u8 (t.d.x3 : Int), .int .u8 (t.d.x4 : Int), .int .u8 (t.d.x5 : Int), .int .u8 (t.d.x6 : Int), .int .u8 (t.d.x7 : Int), .int .i64 t.no, .int .i64 t.fe, .int .i64 t.ki, .slice t.A t.n t.c, .slice t.A' t.n' t.c'] 26 (0, 0)) := hb
  rw [hb'] at h1
  injection h1 with e
  injection e with _ e
  exact absurd e (by decide)
/-- A transaction whose bytes lie in rows of their own. -/
def TxV.Owns (t : TxV) (w : World) : Prop := w.ownsRow 0 5 1 (.slice t.A t.n t.c) t.n (bv t.bo) ∧ w.ownsRow 0 5 1 (.slice t.A' t.n' t.c') t.n' (bv t.si)
theorem TxV.Owns.below {t : TxV} {w w' : World} (h : t.Owns w) (hb : Below w.heap.size w w') : t.Owns w' := ⟨own_below h.1 hb, own_below h.2 hb⟩
theorem TxV.Owns.box {t o : TxV} {w w' : World} {b : Nat} (h : t.Owns w) (hb : Box o w b) (hg : w.grownBy w' (some b)) : t.Owns w' := ⟨own_box h.1 hb hg, own_box h.2 hb hg⟩
theorem own_down0 {w : World} {base n : Nat} {v : Value} {xs : List Value} (h : w.ownsRow base 5 1 v n xs) : w.ownsRow 0 5 1 v n xs := by
  refine ⟨h.1, ?_⟩
  rcases h.2 with h1 | ⟨g, cap, cur, h1, h2, h3⟩
  · exact .inl h1
  · exact .inr ⟨g, cap, cur, h1, Nat.zero_le _, h3⟩
/-- What Sign gives back. -/
def GivesSg (t : TxV) (k : D8) (B bk mb : Nat) (L : List En) (w : World) (e : Ending) (w' : World) : Prop :=
  if checkT t.no t.fe t.ki t.bo [] = 0 then
    ∃ t' : TxV, e = .returned (.tuple #[.agg #[.int .u8 (t'.d.x0 : Int), .int .u8 (t'.d.x1 : Int), .int .u8 (t'.d.x2 : Int), .int .u8 (t'.d.x3 : Int), .int .u8 (t'.d.x4 : Int), .int .u8 (t'.d.x5 : Int), .int .u8 (t'.d.x6 : Int), .int .u8 (t'.d.x7 : Int), .int .i64 t'.no, .int .i64 t'.fe, .int .i64 t'.ki, .slice t'.A t'.n t'.c, .slice t'.A' t'.n' t'.c'], .int .i64 0]) ∧ t'.d = k ∧ t'.no = t.no ∧ t'.fe = t.fe ∧ t'.ki = t.ki ∧ t'.bo = t.bo ∧ t'.si = sigL (signE L ⟨k, askedT k t.no t.fe t.ki t.bo⟩).2 ∧ t'.At w' ∧ t'.Owns w' ∧
      BookAt w' B bk mb (signE L ⟨k, askedT k t.no t.fe t.ki t.bo⟩).1 ∧ Kept w w' bk mb
  else e = .returned (.tuple #[.agg #[.int .u8 (txZ.d.x0 : Int), .int .u8 (txZ.d.x1 : Int), .int .u8 (txZ.d.x2 : Int), .int .u8 (txZ.d.x3 : Int), .int .u8 (txZ.d.x4 : Int), .int .u8 (txZ.d.x5 : Int), .int .u8 (txZ.d.x6 : Int), .int .u8 (txZ.d.x7 : Int), .int .i64 txZ.no, .int .i64 txZ.fe, .int .i64 txZ.ki, .slice txZ.A txZ.n txZ.c, .slice txZ.A' txZ.n' txZ.c'], .int .i64 (checkT t.no t.fe t.ki t.bo [])]) ∧ Below w.heap.size w w'
set_option maxRecDepth 100000 in
set_option maxHeartbeats 4000000 in
theorem txsign_any (t : TxV) (k : D8) (B bk mb : Nat) (L : List En) (w : World) (h : t.At w) (hB : BookAt w B bk mb L) (hk : k.ok) (hlen : L.length < 60000) :
    Calls Try.prog 28 #[.agg #[.int .u8 (t.d.x0 : Int), .int .u8 (t.d.x1 : Int), .int .u8 (t.d.x2 : Int), .int .u8 (t.d.x3 : Int), .int .u8 (t.d.x4 : Int), .int .u8 (t.d.x5 : Int), .int .u8 (t.d.x6 : Int), .int .u8 (t.d.x7 : Int), .int .i64 t.no, .int .i64 t.fe, .int .i64 t.ki, .slice t.A t.n t.c, .slice t.A' t.n' t.c'], .iface 95 (.agg #[.pointer (some ⟨bk, 0, none⟩), .int .u8 (k.x0 : Int), .int .u8 (k.x1 : Int), .int .u8 (k.x2 : Int), .int .u8 (k.x3 : Int), .int .u8 (k.x4 : Int), .int .u8 (k.x5 : Int), .int .u8 (k.x6 : Int), .int .u8 (k.x7 : Int)])] w (GivesSg t k B bk mb L w) := by
  have hna := fun k => nil_sign bk k
  have hme := fun k => meth_sign bk k
  have hke := fun k => meth_key bk k
  rw [types_manyT] at hna hme hke
  have hb0 := h_two w (.cells #[.int .u8 (t.d.x0 : Int), .int .u8 (t.d.x1 : Int), .int .u8 (t.d.x2 : Int), .int .u8 (t.d.x3 : Int), .int .u8 (t.d.x4 : Int), .int .u8 (t.d.x5 : Int), .int .u8 (t.d.x6 : Int), .int .u8 (t.d.x7 : Int), .int .i64 t.no, .int .i64 t.fe, .int .i64 t.ki, .slice t.A t.n t.c, .slice t.A' t.n' t.c'] 26) (.cells #[.int .u8 0, .int .u8 0, .int .u8 0, .int .u8 0, .int .u8 0, .int .u8 0, .int .u8 0, .int .u8 0, .int .i64 0, .int .i64 0, .int .i64 0, .slice none 0 0, .slice none 0 0] 26)
  have H0 := Lib.hid (h.up hb0)
  have HZ : Hid (Box txZ ((w.alloc (.cells #[.int .u8 (t.d.x0 : Int), .int .u8 (t.d.x1 : Int), .int .u8 (t.d.x2 : Int), .int .u8 (t.d.x3 : Int), .int .u8 (t.d.x4 : Int), .int .u8 (t.d.x5 : Int), .int .u8 (t.d.x6 : Int), .int .u8 (t.d.x7 : Int), .int .i64 t.no, .int .i64 t.fe, .int .i64 t.ki, .slice t.A t.n t.c, .slice t.A' t.n' t.c'] 26)).alloc (.cells #[.int .u8 0, .int .u8 0, .int .u8 0, .int .u8 0, .int .u8 0, .int .u8 0, .int .u8 0, .int .u8 0, .int .i64 0, .int .i64 0, .int .i64 0, .slice none 0 0, .slice none 0 0] 26)) (w.heap.size + 1)) := h_at (by simp)
  have HT : Hid (Box t ((w.alloc (.cells #[.int .u8 (t.d.x0 : Int), .int .u8 (t.d.x1 : Int), .int .u8 (t.d.x2 : Int), .int .u8 (t.d.x3 : Int), .int .u8 (t.d.x4 : Int), .int .u8 (t.d.x5 : Int), .int .u8 (t.d.x6 : Int), .int .u8 (t.d.x7 : Int), .int .i64 t.no, .int .i64 t.fe, .int .i64 t.ki, .slice t.A t.n t.c, .slice t.A' t.n' t.c'] 26)).alloc (.cells #[.int .u8 0, .int .u8 0, .int .u8 0, .int .u8 0, .int .u8 0, .int .u8 0, .int .u8 0, .int .u8 0, .int .i64 0, .int .i64 0, .int .i64 0, .slice none 0 0, .slice none 0 0] 26)) w.heap.size) := block_alloc (heap_alloc_new w (.cells #[.int .u8 (t.d.x0 : Int), .int .u8 (t.d.x1 : Int), .int .u8 (t.d.x2 : Int), .int .u8 (t.d.x3 : Int), .int .u8 (t.d.x4 : Int), .int .u8 (t.d.x5 : Int), .int .u8 (t.d.x6 : Int), .int .u8 (t.d.x7 : Int), .int .i64 t.no, .int .i64 t.fe, .int .i64 t.ki, .slice t.A t.n t.c, .slice t.A' t.n' t.c'] 26)) (.cells #[.int .u8 0, .int .u8 0, .int .u8 0, .int .u8 0, .int .u8 0, .int .u8 0, .int .u8 0, .int .u8 0, .int .i64 0, .int .i64 0, .int .i64 0, .slice none 0 0, .slice none 0 0] 26)
  have Hb0 := Lib.hid hb0
  have Hz0 : Hid (((w.alloc (.cells #[.int .u8 (t.d.x0 : Int), .int .u8 (t.d.x1 : Int), .int .u8 (t.d.x2 : Int), .int .u8 (t.d.x3 : Int), .int .u8 (t.d.x4 : Int), .int .u8 (t.d.x5 : Int), .int .u8 (t.d.x6 : Int), .int .u8 (t.d.x7 : Int), .int .i64 t.no, .int .i64 t.fe, .int .i64 t.ki, .slice t.A t.n t.c, .slice t.A' t.n' t.c'] 26)).alloc (.cells #[.int .u8 0, .int .u8 0, .int .u8 0, .int .u8 0, .int .u8 0, .int .u8 0, .int .u8 0, .int .u8 0, .int .i64 0, .int .i64 0, .int .i64 0, .slice none 0 0, .slice none 0 0] 26)).heap.size = w.heap.size + 2) := Lib.hid (by simp)
  have HB0 := Lib.hid (hB.below hb0)
  have hbl : bk < w.heap.size := Nat.lt_of_lt_of_le hB.lb hB.hB
  have hml := hB.places.lt
  have Hlen := Lib.hid hlen; have Hk := Lib.hid hk
  have Hb1 := Lib.hid h.b1; have Hm1 := Lib.hid h.m1; have Hl1 := Lib.hid h.len1
  clear h hb0 hB hlen hk
  obtain ⟨y0, y1, y2, y3, y4, y5, y6, y7, y8, y9, y10, y11, y12⟩ := HT.out.all
  go_enter Try.func28, Try.ntmps28
  go_wp2_with fail
  refine (txclone_any t _ H0.out).mono ?_
  rintro e w1 ⟨A1, n1, c1, A2, n2, c2, m2, rfl, ho1, hm1, hm2, ho2, hn1, hn2, hb1⟩
  have HZ1 := Lib.hid (HZ.out.below hb1)
  have Hw1 := Lib.hid (Hb0.out.trans (hb1.mono Hb0.out.size)); have HB1 := Lib.hid (HB0.out.below hb1)
  have HO1 := Lib.hid ho1
  have hcap := own_capT ho1
  subst hn1 hn2
  have hz1 : w.heap.size + 2 ≤ w1.heap.size := by have := hb1.size; rw [Hz0.out] at this; exact this
  clear hb1 ho1 hm1 hm2 ho2 y0 y1 y2 y3 y4 y5 y6 y7 y8 y9 y10 y11 y12 HZ HT Hb0 HB0 H0 Hz0
  have HT2 : Hid (Box ⟨t.d, t.no, t.fe, t.ki, A1, t.bo.length, c1, A2, t.si.length, c2, t.bo, t.si⟩ (w1.alloc (.cells #[.int .u8 (t.d.x0 : Int), .int .u8 (t.d.x1 : Int), .int .u8 (t.d.x2 : Int), .int .u8 (t.d.x3 : Int), .int .u8 (t.d.x4 : Int), .int .u8 (t.d.x5 : Int), .int .u8 (t.d.x6 : Int), .int .u8 (t.d.x7 : Int), .int .i64 t.no, .int .i64 t.fe, .int .i64 t.ki, .slice A1 t.bo.length c1, .slice A2 t.si.length c2] 26)) w1.heap.size) := heap_alloc_new w1 (.cells #[.int .u8 (t.d.x0 : Int), .int .u8 (t.d.x1 : Int), .int .u8 (t.d.x2 : Int), .int .u8 (t.d.x3 : Int), .int .u8 (t.d.x4 : Int), .int .u8 (t.d.x5 : Int), .int .u8 (t.d.x6 : Int), .int .u8 (t.d.x7 : Int), .int .i64 t.no, .int .i64 t.fe, .int .i64 t.ki, .slice A1 t.bo.length c1, .slice A2 t.si.length c2] 26)
  have HZ2 : Hid (Box txZ (w1.alloc (.cells #[.int .u8 (t.d.x0 : Int), .int .u8 (t.d.x1 : Int), .int .u8 (t.d.x2 : Int), .int .u8 (t.d.x3 : Int), .int .u8 (t.d.x4 : Int), .int .u8 (t.d.x5 : Int), .int .u8 (t.d.x6 : Int), .int .u8 (t.d.x7 : Int), .int .i64 t.no, .int .i64 t.fe, .int .i64 t.ki, .slice A1 t.bo.length c1, .slice A2 t.si.length c2] 26)) (w.heap.size + 1)) := block_alloc HZ1.out (.cells #[.int .u8 (t.d.x0 : Int), .int .u8 (t.d.x1 : Int), .int .u8 (t.d.x2 : Int), .int .u8 (t.d.x3 : Int), .int .u8 (t.d.x4 : Int), .int .u8 (t.d.x5 : Int), .int .u8 (t.d.x6 : Int), .int .u8 (t.d.x7 : Int), .int .i64 t.no, .int .i64 t.fe, .int .i64 t.ki, .slice A1 t.bo.length c1, .slice A2 t.si.length c2] 26)
  have HO2 := Lib.hid (HO1.out.alloc (.cells #[.int .u8 (t.d.x0 : Int), .int .u8 (t.d.x1 : Int), .int .u8 (t.d.x2 : Int), .int .u8 (t.d.x3 : Int), .int .u8 (t.d.x4 : Int), .int .u8 (t.d.x5 : Int), .int .u8 (t.d.x6 : Int), .int .u8 (t.d.x7 : Int), .int .i64 t.no, .int .i64 t.fe, .int .i64 t.ki, .slice A1 t.bo.length c1, .slice A2 t.si.length c2] 26))
  have Hw2 := Lib.hid (Hw1.out.alloc Hw1.out.size (.cells #[.int .u8 (t.d.x0 : Int), .int .u8 (t.d.x1 : Int), .int .u8 (t.d.x2 : Int), .int .u8 (t.d.x3 : Int), .int .u8 (t.d.x4 : Int), .int .u8 (t.d.x5 : Int), .int .u8 (t.d.x6 : Int), .int .u8 (t.d.x7 : Int), .int .i64 t.no, .int .i64 t.fe, .int .i64 t.ki, .slice A1 t.bo.length c1, .slice A2 t.si.length c2] 26))
  have HB2 := Lib.hid (HB1.out.below (h_one w1 (.cells #[.int .u8 (t.d.x0 : Int), .int .u8 (t.d.x1 : Int), .int .u8 (t.d.x2 : Int), .int .u8 (t.d.x3 : Int), .int .u8 (t.d.x4 : Int), .int .u8 (t.d.x5 : Int), .int .u8 (t.d.x6 : Int), .int .u8 (t.d.x7 : Int), .int .i64 t.no, .int .i64 t.fe, .int .i64 t.ki, .slice A1 t.bo.length c1, .slice A2 t.si.length c2] 26)))
  go_upto_region 4 with fail
  have hz2 : w1.heap.size < (w1.alloc (.cells #[.int .u8 (t.d.x0 : Int), .int .u8 (t.d.x1 : Int), .int .u8 (t.d.x2 : Int), .int .u8 (t.d.x3 : Int), .int .u8 (t.d.x4 : Int), .int .u8 (t.d.x5 : Int), .int .u8 (t.d.x6 : Int), .int .u8 (t.d.x7 : Int), .int .i64 t.no, .int .i64 t.fe, .int .i64 t.ki, .slice A1 t.bo.length c1, .slice A2 t.si.length c2] 26)).heap.size := by simp
  generalize w1.alloc (.cells #[.int .u8 (t.d.x0 : Int), .int .u8 (t.d.x1 : Int), .int .u8 (t.d.x2 : Int), .int .u8 (t.d.x3 : Int), .int .u8 (t.d.x4 : Int), .int .u8 (t.d.x5 : Int), .int .u8 (t.d.x6 : Int), .int .u8 (t.d.x7 : Int), .int .i64 t.no, .int .i64 t.fe, .int .i64 t.ki, .slice A1 t.bo.length c1, .slice A2 t.si.length c2] 26) = w2 at *
  obtain ⟨t1, h1⟩ : ∃ t1 : TxV, t1 = ⟨t.d, t.no, t.fe, t.ki, A1, t.bo.length, c1, A2, t.si.length, c2, t.bo, t.si⟩ := ⟨_, rfl⟩
  rw [← h1] at HT2
  have H1 := Lib.hid h1
  clear h1 HZ1 HO1 Hw1 HB1
  generalize w1.heap.size = b6 at *
  go_wp2_with fail
  refine (key_any k bk w2).mono ?_
  rintro e w3 ⟨rfl, hb⟩
  have HT3 := Lib.hid (HT2.out.below hb); have HZ3 := Lib.hid (HZ2.out.below hb); have HO3 := Lib.hid (own_below HO2.out hb); have Hw3 := Lib.hid (Hw2.out.trans (hb.mono Hw2.out.size)); have HB3 := Lib.hid (HB2.out.below hb)
  clear hb HT2 HZ2 HO2 Hw2 HB2 hz2
  obtain ⟨y0, y1, y2, y3, y4, y5, y6, y7, y8, y9, y10, y11, y12⟩ := HT3.out.all
  have yf := block_free HT3.out
  obtain ⟨hk4, hg4⟩ := setKey HT3.out k
  go_upto_region 5 with fail
  have HT4 := Lib.hid hk4
  have HZ4 : Hid (Box txZ (((((((((w3.setCell ⟨b6, 0, none⟩ (.int .u8 (k.x0 : Int))).setCell ⟨b6, 1, none⟩ (.int .u8 (k.x1 : Int))).setCell ⟨b6, 2, none⟩ (.int .u8 (k.x2 : Int))).setCell ⟨b6, 3, none⟩ (.int .u8 (k.x3 : Int))).setCell ⟨b6, 4, none⟩ (.int .u8 (k.x4 : Int))).setCell ⟨b6, 5, none⟩ (.int .u8 (k.x5 : Int))).setCell ⟨b6, 6, none⟩ (.int .u8 (k.x6 : Int))).setCell ⟨b6, 7, none⟩ (.int .u8 (k.x7 : Int)))) (w.heap.size + 1)) := (hg4.block (w.heap.size + 1) (block_lt HZ3.out) (by intro e; injection e with e; omega)).trans HZ3.out
  have HO4 := Lib.hid (own_box HO3.out HT3.out hg4); have HB4 := Lib.hid (HB3.out.box HT3.out hg4)
  have Hw4 := Lib.hid (Hw3.out.grown hg4 Hw3.out.size (fun q hq => by injection hq with hq; omega))
  generalize ((((((((w3.setCell ⟨b6, 0, none⟩ (.int .u8 (k.x0 : Int))).setCell ⟨b6, 1, none⟩ (.int .u8 (k.x1 : Int))).setCell ⟨b6, 2, none⟩ (.int .u8 (k.x2 : Int))).setCell ⟨b6, 3, none⟩ (.int .u8 (k.x3 : Int))).setCell ⟨b6, 4, none⟩ (.int .u8 (k.x4 : Int))).setCell ⟨b6, 5, none⟩ (.int .u8 (k.x5 : Int))).setCell ⟨b6, 6, none⟩ (.int .u8 (k.x6 : Int))).setCell ⟨b6, 7, none⟩ (.int .u8 (k.x7 : Int))) = w4 at *
  clear hk4 hg4 y0 y1 y2 y3 y4 y5 y6 y7 y8 y9 y10 y11 y12 yf HT3 HZ3 HO3 HB3 Hw3
  obtain ⟨t2, h2⟩ : ∃ t2 : TxV, t2 = t1.withKey k := ⟨_, rfl⟩
  rw [← h2] at HT4
  have H2 := Lib.hid h2
  clear h2
  obtain ⟨y0, y1, y2, y3, y4, y5, y6, y7, y8, y9, y10, y11, y12⟩ := HT4.out.all
  have yf := block_free HT4.out
  obtain ⟨hk5, hg5⟩ := setSig HT4.out none 0 0 []
  go_upto_region 6 with fail
  have HT5 := Lib.hid hk5
  have HZ5 : Hid (Box txZ (w4.setCell ⟨b6, 12, none⟩ (.slice none 0 0)) (w.heap.size + 1)) := (hg5.block (w.heap.size + 1) (block_lt HZ4.out) (by intro e; injection e with e; omega)).trans HZ4.out
  have HO5 := Lib.hid (own_box HO4.out HT4.out hg5); have HB5 := Lib.hid (HB4.out.box HT4.out hg5)
  have Hw5 := Lib.hid (Hw4.out.grown hg5 Hw4.out.size (fun q hq => by injection hq with hq; omega))
  generalize w4.setCell ⟨b6, 12, none⟩ (.slice none 0 0) = w5 at *
  clear hk5 hg5 y0 y1 y2 y3 y4 y5 y6 y7 y8 y9 y10 y11 y12 yf HT4 HZ4 HO4 HB4 Hw4
  obtain ⟨t3, h3⟩ : ∃ t3 : TxV, t3 = t2.withSig none 0 0 [] := ⟨_, rfl⟩
  rw [← h3] at HT5
  have e3 : t3.d = k ∧ t3.no = t.no ∧ t3.fe = t.fe ∧ t3.ki = t.ki ∧ t3.A = A1 ∧ t3.n = t.bo.length ∧ t3.c = c1 ∧ t3.A' = none ∧ t3.n' = 0 ∧ t3.bo = t.bo ∧ t3.si = [] := by
    rw [h3, H2.out, H1.out]
    exact ⟨rfl, rfl, rfl, rfl, rfl, rfl, rfl, rfl, rfl, rfl, rfl⟩
  have E3 := Lib.hid e3
  have At5 : Hid (t3.At w5) := by
    obtain ⟨a0, a1, a2, a3, a4, a5, a6, a7, a8, a9, a10⟩ := e3
    exact ⟨by rw [a0]; exact Hk.out, by rw [a4, a5, a9]; exact Rd.of_own HO5.out, by rw [a7, a8, a10]; exact Rd.empty, by rw [a5, a6]; exact hcap, by omega, by rw [a9]; exact Hb1.out, by rw [a10]; simp, by rw [a5]; have := Hl1.out; have := Hm1.out; omega, by omega⟩
  clear h3 H1 H2 e3 t1 t2
  obtain ⟨y0, y1, y2, y3, y4, y5, y6, y7, y8, y9, y10, y11, y12⟩ := HT5.out.all
  go_wp2_with fail
  refine (check_any t3 w5 At5.out).mono ?_
  rintro e w6 ⟨rfl, hb⟩
  have HT6 := Lib.hid (HT5.out.below hb); have HZ6 := Lib.hid (HZ5.out.below hb); have HO6 := Lib.hid (own_below HO5.out hb); have Hw6 := Lib.hid (Hw5.out.trans (hb.mono Hw5.out.size)); have HB6 := Lib.hid (HB5.out.below hb); have At6 := Lib.hid (At5.out.up hb)
  clear hb y0 y1 y2 y3 y4 y5 y6 y7 y8 y9 y10 y11 y12 HT5 HZ5 HO5 Hw5 HB5 At5
  have hck : checkT t3.no t3.fe t3.ki t3.bo t3.si = checkT t.no t.fe t.ki t.bo [] := by
    obtain ⟨a0, a1, a2, a3, a4, a5, a6, a7, a8, a9, a10⟩ := E3.out
    rw [a1, a2, a3, a9, a10]
  rw [hck]
  clear hck
  have Hgn : Hid (checkT t.no t.fe t.ki t.bo [] ≠ 0 → ∀ e w', (e = .returned (.tuple #[.agg #[.int .u8 (txZ.d.x0 : Int), .int .u8 (txZ.d.x1 : Int), .int .u8 (txZ.d.x2 : Int), .int .u8 (txZ.d.x3 : Int), .int .u8 (txZ.d.x4 : Int), .int .u8 (txZ.d.x5 : Int), .int .u8 (txZ.d.x6 : Int), .int .u8 (txZ.d.x7 : Int), .int .i64 txZ.no, .int .i64 txZ.fe, .int .i64 txZ.ki, .slice txZ.A txZ.n txZ.c, .slice txZ.A' txZ.n' txZ.c'], .int .i64 (checkT t.no t.fe t.ki t.bo [])]) ∧ Below w.heap.size w w') → GivesSg t k B bk mb L w e w') := fun h e w' x => by
    unfold GivesSg; rw [if_neg h]; exact x
  have Hgy : Hid (checkT t.no t.fe t.ki t.bo [] = 0 → ∀ e w', (∃ t' : TxV, e = .returned (.tuple #[.agg #[.int .u8 (t'.d.x0 : Int), .int .u8 (t'.d.x1 : Int), .int .u8 (t'.d.x2 : Int), .int .u8 (t'.d.x3 : Int), .int .u8 (t'.d.x4 : Int), .int .u8 (t'.d.x5 : Int), .int .u8 (t'.d.x6 : Int), .int .u8 (t'.d.x7 : Int), .int .i64 t'.no, .int .i64 t'.fe, .int .i64 t'.ki, .slice t'.A t'.n t'.c, .slice t'.A' t'.n' t'.c'], .int .i64 0]) ∧ t'.d = k ∧ t'.no = t.no ∧ t'.fe = t.fe ∧ t'.ki = t.ki ∧ t'.bo = t.bo ∧ t'.si = sigL (signE L ⟨k, askedT k t.no t.fe t.ki t.bo⟩).2 ∧ t'.At w' ∧ t'.Owns w' ∧
      BookAt w' B bk mb (signE L ⟨k, askedT k t.no t.fe t.ki t.bo⟩).1 ∧ Kept w w' bk mb) → GivesSg t k B bk mb L w e w') := fun h e w' x => by
    unfold GivesSg; rw [if_pos h]; exact x
  generalize GivesSg t k B bk mb L w = GV at *
  generalize hcc : checkT t.no t.fe t.ki t.bo [] = ck at *
  by_cases hc0 : ck = 0
  · subst hc0
    have e1 : ((0 : Int) != 0) = false := by decide
    have hz6 := block_lt HT6.out
    have hS : w6.heap[b6]? = some (.cells #[.int .u8 (t3.d.x0 : Int), .int .u8 (t3.d.x1 : Int), .int .u8 (t3.d.x2 : Int), .int .u8 (t3.d.x3 : Int), .int .u8 (t3.d.x4 : Int), .int .u8 (t3.d.x5 : Int), .int .u8 (t3.d.x6 : Int), .int .u8 (t3.d.x7 : Int), .int .i64 t3.no, .int .i64 t3.fe, .int .i64 t3.ki, .slice t3.A t3.n t3.c, .slice t3.A' t3.n' t3.c'] 26 (0, 0)) := HT6.out
    go_upto_region 9 with fail
    refine wp_region_held_drew (S := fun w' => w'.heap[b6]? = some (.cells #[.int .u8 (t3.d.x0 : Int), .int .u8 (t3.d.x1 : Int), .int .u8 (t3.d.x2 : Int), .int .u8 (t3.d.x3 : Int), .int .u8 (t3.d.x4 : Int), .int .u8 (t3.d.x5 : Int), .int .u8 (t3.d.x6 : Int), .int .u8 (t3.d.x7 : Int), .int .i64 t3.no, .int .i64 t3.fe, .int .i64 t3.ki, .slice t3.A t3.n t3.c, .slice t3.A' t3.n' t3.c'] 26 (0, 0))) (by kernel_rfl) hS (fun hHeld => ?_)
    refine takeH 0 (some 26) (v := ?_) rfl (by kernel_rfl) (by kernel_rfl) (by kernel_rfl) (by kernel_rfl) (fun _ _ _ h => h) (Or.inl ⟨by kernel_rfl, ?hy⟩) (by assumption) ?_
    case hy =>
      intro w' hSw
      try dsimp only at hSw
      first
        | (go_simp; done)
        | (go_simp; with_reducible rfl)
    simp only [Act.put, List.setIfInBounds_toArray, List.set_cons_zero, List.set_cons_succ]
    refine takeH 1 (some 27) (v := ?_) rfl (by kernel_rfl) (by kernel_rfl) (by kernel_rfl) (by kernel_rfl) (fun _ _ _ h => h) (Or.inl ⟨by kernel_rfl, ?hy⟩) (by assumption) ?_
    case hy =>
      intro w' hSw
      try dsimp only at hSw
      have x := block_cell hSw
      have x0 := x 0; have x1 := x 1; have x2 := x 2; have x3 := x 3; have x4 := x 4; have x5 := x 5; have x6 := x 6; have x7 := x 7; have x8 := x 8; have x9 := x 9; have x10 := x 10; have x11 := x 11; have x12 := x 12
      simp at x0 x1 x2 x3 x4 x5 x6 x7 x8 x9 x10 x11 x12
      clear x hSw
      first
        | (go_simp; done)
        | (go_simp; with_reducible rfl)
    simp only [Act.put, List.setIfInBounds_toArray, List.set_cons_zero, List.set_cons_succ]
    refine takeH 3 (some 29) (v := ?_) rfl (by kernel_rfl) (by kernel_rfl) (by kernel_rfl) (by kernel_rfl) (fun _ _ _ h => h) (Or.inl ⟨by kernel_rfl, ?hy⟩) (by assumption) ?_
    case hy =>
      intro w' hSw
      try dsimp only at hSw
      first
        | (go_simp; done)
        | (go_simp; with_reducible rfl)
    simp only [Act.put, List.setIfInBounds_toArray, List.set_cons_zero, List.set_cons_succ]
    refine takeH 4 (some 30) (v := ?_) rfl (by kernel_rfl) (by kernel_rfl) (by kernel_rfl) (by kernel_rfl) (fun _ _ _ h => h) (Or.inl ⟨by kernel_rfl, ?hy⟩) (by assumption) ?_
    case hy =>
      intro w' hSw
      try dsimp only at hSw
      first
        | (go_simp; done)
        | (go_simp; with_reducible rfl)
    simp only [Act.put, List.setIfInBounds_toArray, List.set_cons_zero, List.set_cons_succ]
    refine takeH 5 (some 31) (v := ?_) rfl (by kernel_rfl) (by kernel_rfl) (by kernel_rfl) (by kernel_rfl) (fun _ _ _ h => h) (Or.inl ⟨by kernel_rfl, ?hy⟩) (by assumption) ?_
    case hy =>
      intro w' hSw
      try dsimp only at hSw
      first
        | (go_simp; done)
        | (go_simp; with_reducible rfl)
    simp only [Act.put, List.setIfInBounds_toArray, List.set_cons_zero, List.set_cons_succ]
    refine wpAnyH_ready (rs := [2]) (by kernel_rfl) (by simp) ?_
    refine AllReadyH.cons rfl (fun K hK => ?_) AllReadyH.nil
    rw [if_pos (by kernel_rfl)]
    go_simp
    refine (asked_any t3 w6.drew (At6.out.up (Below.refl _ _).drew)).mono ?_
    rintro e w7 ⟨rfl, hb⟩
    have hea : askedT t3.d t3.no t3.fe t3.ki t3.bo = askedT k t.no t.fe t.ki t.bo := by
      obtain ⟨a0, a1, a2, a3, a4, a5, a6, a7, a8, a9, a10⟩ := E3.out
      rw [a0, a1, a2, a3, a9]
    rw [hea]
    have Hqo : Hid ((askedT k t.no t.fe t.ki t.bo).ok) := hashWord_ok _ _
    generalize askedT k t.no t.fe t.ki t.bo = qd at *
    have hq := (Below.refl w6.heap.size w6).drew.trans hb
    have hS7 := block_below hS hq hz6
    have HT7 := Lib.hid (HT6.out.below hq); have HZ7 := Lib.hid (HZ6.out.below hq); have HO7 := Lib.hid (own_below HO6.out hq); have Hw7 := Lib.hid (Hw6.out.trans (hq.mono Hw6.out.size)); have HB7 := Lib.hid (HB6.out.below hq)
    refine hK.out _ _ hS7 (fun _ => ?_)
    clear hK K hb hq hS HT6 HZ6 HO6 Hw6 HB6 At6 hea
    refine wpAnyH_ready (rs := [6]) (by kernel_rfl) (by simp) ?_
    refine AllReadyH.cons rfl (fun K hK => ?_) AllReadyH.nil
    rw [if_pos (by kernel_rfl)]
    go_simp
    refine (wsign_any B bk mb L k qd w7 HB7.out Hk.out Hqo.out Hlen.out).mono ?_
    rintro e w8 ⟨g, rfl, h81, h82, h83, h84⟩
    have hT8 := h84.boxT HB7.out HT7.out
    have HT8 := Lib.hid hT8; have HZ8 := Lib.hid (h84.boxT HB7.out HZ7.out); have HO8 := Lib.hid (h84.ownU HB7.out HO7.out); have HB8 := Lib.hid h83; have HS8 := Lib.hid h82
    have HK8 := Lib.hid ((Kept.of_below Hw7.out hbl hml).trans h84)
    refine hK.out _ _ hT8 (fun _ => ?_)
    clear hK K hS7 hT8 h81 h82 h83 h84 HT7 HZ7 HO7 Hw7 HB7
    refine takeH 7 (some 25) (v := ?_) rfl (by kernel_rfl) (by kernel_rfl) (by kernel_rfl) (by kernel_rfl) (fun _ _ _ h => h) (Or.inl ⟨by kernel_rfl, ?hy⟩) (by assumption) ?_
    case hy =>
      intro w' hSw
      try dsimp only at hSw
      first
        | (go_simp; done)
        | (go_simp; with_reducible rfl)
    simp only [Act.put, List.setIfInBounds_toArray, List.set_cons_zero, List.set_cons_succ]
    refine takeH 8 (some 33) (v := ?_) rfl (by kernel_rfl) (by kernel_rfl) (by kernel_rfl) (by kernel_rfl) (fun _ _ _ h => h) (Or.inl ⟨by kernel_rfl, ?hy⟩) (by assumption) ?_
    case hy =>
      intro w' hSw
      try dsimp only at hSw
      first
        | (go_simp; done)
        | (go_simp; with_reducible rfl)
    simp only [Act.put, List.setIfInBounds_toArray, List.set_cons_zero, List.set_cons_succ]
    refine takeH 9 (some 34) (v := ?_) rfl (by kernel_rfl) (by kernel_rfl) (by kernel_rfl) (by kernel_rfl) (fun _ _ _ h => h) (Or.inl ⟨by kernel_rfl, ?hy⟩) (by assumption) ?_
    case hy =>
      intro w' hSw
      try dsimp only at hSw
      first
        | (go_simp; done)
        | (go_simp; with_reducible rfl)
    simp only [Act.put, List.setIfInBounds_toArray, List.set_cons_zero, List.set_cons_succ]
    refine takeH 10 (some 8) (v := ?_) rfl (by kernel_rfl) (by kernel_rfl) (by kernel_rfl) (by kernel_rfl) (fun _ _ _ h => h) (Or.inl ⟨by kernel_rfl, ?hy⟩) (by assumption) ?_
    case hy =>
      intro w' hSw
      try dsimp only at hSw
      first
        | (go_simp; done)
        | (go_simp; with_reducible rfl)
    simp only [Act.put, List.setIfInBounds_toArray, List.set_cons_zero, List.set_cons_succ]
    refine takeH 11 (some 9) (v := ?_) rfl (by kernel_rfl) (by kernel_rfl) (by kernel_rfl) (by kernel_rfl) (fun _ _ _ h => h) (Or.inl ⟨by kernel_rfl, ?hy⟩) (by assumption) ?_
    case hy =>
      intro w' hSw
      try dsimp only at hSw
      first
        | (go_simp; done)
        | (go_simp; with_reducible rfl)
    simp only [Act.put, List.setIfInBounds_toArray, List.set_cons_zero, List.set_cons_succ]
    refine wpAnyH_done (by kernel_rfl) ?_ _
    go_wp2_with fail
    have hg2 : (2 : Nat) ≤ 400000000 := by decide
    refine (clone_any (some ⟨g, 0, none⟩) 2 2 (sigL (signE L ⟨k, qd⟩).2) w8 (sig_rd HS8.out) hg2).mono ?_
    rintro e w9 ⟨A9, n9, c9, rfl, ho, hn9, hb⟩
    have HT9 := Lib.hid (HT8.out.below hb); have HZ9 := Lib.hid (HZ8.out.below hb); have HO9 := Lib.hid (own_below HO8.out hb); have HB9 := Lib.hid (HB8.out.below hb); have HG9 := Lib.hid ho
    have HK9 := Lib.hid (HK8.out.low2 (hb.mono HK8.out.size) hbl)
    have hn92 : n9 = 2 := by rw [hn9]; rfl
    subst hn92
    have hcap9 := own_capT ho
    clear ho hb hn9 HT8 HZ8 HO8 HB8 HK8 HS8 hna hme hke
    obtain ⟨y0, y1, y2, y3, y4, y5, y6, y7, y8, y9, y10, y11, y12⟩ := HT9.out.all
    have yf := block_free HT9.out
    obtain ⟨hk10, hg10⟩ := setSig HT9.out A9 2 c9 (sigL (signE L ⟨k, qd⟩).2)
    go_upto_region 13 with fail
    have hz9 : w.heap.size ≤ w9.heap.size := HK9.out.size
    have HT10 := Lib.hid hk10
    have HZ10 : Hid (Box txZ (w9.setCell ⟨b6, 12, none⟩ (.slice A9 2 c9)) (w.heap.size + 1)) := (hg10.block (w.heap.size + 1) (block_lt HZ9.out) (by intro e; injection e with e; omega)).trans HZ9.out
    have HO10 := Lib.hid (own_box HO9.out HT9.out hg10); have HB10 := Lib.hid (HB9.out.box HT9.out hg10); have HG10 := Lib.hid (own_box HG9.out HT9.out hg10)
    have HK10 := Lib.hid (HK9.out.low2 (((Below.refl w9.heap.size w9).mono hz9).grown hg10 hz9 (fun q hq => by injection hq with hq; omega)) hbl)
    generalize w9.setCell ⟨b6, 12, none⟩ (.slice A9 2 c9) = w10 at *
    clear hk10 hg10 y0 y1 y2 y3 y4 y5 y6 y7 y8 y9 y10 y11 y12 yf HT9 HZ9 HO9 HB9 HK9 HG9 hz9
    obtain ⟨t4, h4⟩ : ∃ t4 : TxV, t4 = t3.withSig A9 2 c9 (sigL (signE L ⟨k, qd⟩).2) := ⟨_, rfl⟩
    rw [← h4] at HT10
    have e4 : t4.d = k ∧ t4.no = t.no ∧ t4.fe = t.fe ∧ t4.ki = t.ki ∧ t4.A = A1 ∧ t4.n = t.bo.length ∧ t4.c = c1 ∧ t4.A' = A9 ∧ t4.n' = 2 ∧ t4.c' = c9 ∧ t4.bo = t.bo ∧ t4.si = sigL (signE L ⟨k, qd⟩).2 := by
      obtain ⟨a0, a1, a2, a3, a4, a5, a6, a7, a8, a9, a10⟩ := E3.out
      rw [h4]
      exact ⟨a0, a1, a2, a3, a4, a5, a6, rfl, rfl, rfl, a9, rfl⟩
    have E4 := Lib.hid e4
    clear h4 e4
    obtain ⟨y0, y1, y2, y3, y4, y5, y6, y7, y8, y9, y10, y11, y12⟩ := HT10.out.all
    obtain ⟨z0, z1, z2, z3, z4, z5, z6, z7, z8, z9, z10, z11, z12⟩ := HZ10.out.all
    have zf := block_free HZ10.out
    obtain ⟨hk11, hg11⟩ := set13 (t' := t4) HZ10.out
    go_wp2
    have hz10 : w.heap.size ≤ w10.heap.size := HK10.out.size
    have HT11 := Lib.hid hk11
    have HO11 := Lib.hid (own_box HO10.out HZ10.out hg11); have HB11 := Lib.hid (HB10.out.box HZ10.out hg11); have HG11 := Lib.hid (own_box HG10.out HZ10.out hg11)
    have HK11 := Lib.hid (HK10.out.low2 (((Below.refl w10.heap.size w10).mono hz10).grown hg11 hz10 (fun q hq => by injection hq with hq; omega)) hbl)
    generalize (((((((((((((w10.setCell ⟨(w.heap.size + 1), 0, none⟩ (.int .u8 (t4.d.x0 : Int))).setCell ⟨(w.heap.size + 1), 1, none⟩ (.int .u8 (t4.d.x1 : Int))).setCell ⟨(w.heap.size + 1), 2, none⟩ (.int .u8 (t4.d.x2 : Int))).setCell ⟨(w.heap.size + 1), 3, none⟩ (.int .u8 (t4.d.x3 : Int))).setCell ⟨(w.heap.size + 1), 4, none⟩ (.int .u8 (t4.d.x4 : Int))).setCell ⟨(w.heap.size + 1), 5, none⟩ (.int .u8 (t4.d.x5 : Int))).setCell ⟨(w.heap.size + 1), 6, none⟩ (.int .u8 (t4.d.x6 : Int))).setCell ⟨(w.heap.size + 1), 7, none⟩ (.int .u8 (t4.d.x7 : Int))).setCell ⟨(w.heap.size + 1), 8, none⟩ (.int .i64 t4.no)).setCell ⟨(w.heap.size + 1), 9, none⟩ (.int .i64 t4.fe)).setCell ⟨(w.heap.size + 1), 10, none⟩ (.int .i64 t4.ki)).setCell ⟨(w.heap.size + 1), 11, none⟩ (.slice t4.A t4.n t4.c)).setCell ⟨(w.heap.size + 1), 12, none⟩ (.slice t4.A' t4.n' t4.c')) = w11 at *
    clear hk11 hg11 y0 y1 y2 y3 y4 y5 y6 y7 y8 y9 y10 y11 y12 z0 z1 z2 z3 z4 z5 z6 z7 z8 z9 z10 z11 z12 zf
    obtain ⟨r0, r1, r2, r3, r4, r5, r6, r7, r8, r9, r10, r11, r12⟩ := HT11.out.all
    refine bodyPost_ret (v := .tuple #[.agg #[.int .u8 (t4.d.x0 : Int), .int .u8 (t4.d.x1 : Int), .int .u8 (t4.d.x2 : Int), .int .u8 (t4.d.x3 : Int), .int .u8 (t4.d.x4 : Int), .int .u8 (t4.d.x5 : Int), .int .u8 (t4.d.x6 : Int), .int .u8 (t4.d.x7 : Int), .int .i64 t4.no, .int .i64 t4.fe, .int .i64 t4.ki, .slice t4.A t4.n t4.c, .slice t4.A' t4.n' t4.c'], .int .i64 0]) (by simp [results, Try.results28, go_sem, r0, r1, r2, r3, r4, r5, r6, r7, r8, r9, r10, r11, r12]) rfl (Hgy.out (by trivial) _ _ ?_)
    obtain ⟨a0, a1, a2, a3, a4, a5, a6, a7, a8, a9, a10, a11⟩ := E4.out
    refine ⟨t4, rfl, a0, a1, a2, a3, a10, a11, ⟨by rw [a0]; exact Hk.out, by rw [a4, a5, a10]; exact Rd.of_own HO11.out, by rw [a7, a8, a11]; exact Rd.of_own HG11.out, by rw [a5, a6]; exact hcap, by rw [a8, a9]; exact hcap9, by rw [a10]; exact Hb1.out, by rw [a11]; exact sigL_lt _, by rw [a5]; have := Hl1.out; have := Hm1.out; omega, by omega⟩, ⟨by rw [a4, a5, a6, a10]; exact own_down0 HO11.out, by rw [a7, a8, a9, a11]; exact own_down0 HG11.out⟩, HB11.out, HK11.out⟩
  · have e1 : (ck != 0) = true := by simpa using hc0
    obtain ⟨z0, z1, z2, z3, z4, z5, z6, z7, z8, z9, z10, z11, z12⟩ := HZ6.out.all
    have zf := block_free HZ6.out
    have hk7 : Box txZ ((((((((((((((w6.setCell ⟨(w.heap.size + 1), 0, none⟩ (.int .u8 0)).setCell ⟨(w.heap.size + 1), 1, none⟩ (.int .u8 0)).setCell ⟨(w.heap.size + 1), 2, none⟩ (.int .u8 0)).setCell ⟨(w.heap.size + 1), 3, none⟩ (.int .u8 0)).setCell ⟨(w.heap.size + 1), 4, none⟩ (.int .u8 0)).setCell ⟨(w.heap.size + 1), 5, none⟩ (.int .u8 0)).setCell ⟨(w.heap.size + 1), 6, none⟩ (.int .u8 0)).setCell ⟨(w.heap.size + 1), 7, none⟩ (.int .u8 0)).setCell ⟨(w.heap.size + 1), 8, none⟩ (.int .i64 0)).setCell ⟨(w.heap.size + 1), 9, none⟩ (.int .i64 0)).setCell ⟨(w.heap.size + 1), 10, none⟩ (.int .i64 0)).setCell ⟨(w.heap.size + 1), 11, none⟩ (.slice none 0 0)).setCell ⟨(w.heap.size + 1), 12, none⟩ (.slice none 0 0))) (w.heap.size + 1) ∧ w6.grownBy ((((((((((((((w6.setCell ⟨(w.heap.size + 1), 0, none⟩ (.int .u8 0)).setCell ⟨(w.heap.size + 1), 1, none⟩ (.int .u8 0)).setCell ⟨(w.heap.size + 1), 2, none⟩ (.int .u8 0)).setCell ⟨(w.heap.size + 1), 3, none⟩ (.int .u8 0)).setCell ⟨(w.heap.size + 1), 4, none⟩ (.int .u8 0)).setCell ⟨(w.heap.size + 1), 5, none⟩ (.int .u8 0)).setCell ⟨(w.heap.size + 1), 6, none⟩ (.int .u8 0)).setCell ⟨(w.heap.size + 1), 7, none⟩ (.int .u8 0)).setCell ⟨(w.heap.size + 1), 8, none⟩ (.int .i64 0)).setCell ⟨(w.heap.size + 1), 9, none⟩ (.int .i64 0)).setCell ⟨(w.heap.size + 1), 10, none⟩ (.int .i64 0)).setCell ⟨(w.heap.size + 1), 11, none⟩ (.slice none 0 0)).setCell ⟨(w.heap.size + 1), 12, none⟩ (.slice none 0 0))) (some (w.heap.size + 1)) := set13 (t' := txZ) HZ6.out
    have hc1 := hc0
    have Hc0 := Lib.hid hc1
    clear hc0 hc1 hna hme hke
    go_wp2
    have Hw7 := Lib.hid (Hw6.out.grown hk7.2 Hw6.out.size (fun q hq => by injection hq with hq; omega))
    have HZ7 := Lib.hid hk7.1
    generalize (((((((((((((w6.setCell ⟨(w.heap.size + 1), 0, none⟩ (.int .u8 0)).setCell ⟨(w.heap.size + 1), 1, none⟩ (.int .u8 0)).setCell ⟨(w.heap.size + 1), 2, none⟩ (.int .u8 0)).setCell ⟨(w.heap.size + 1), 3, none⟩ (.int .u8 0)).setCell ⟨(w.heap.size + 1), 4, none⟩ (.int .u8 0)).setCell ⟨(w.heap.size + 1), 5, none⟩ (.int .u8 0)).setCell ⟨(w.heap.size + 1), 6, none⟩ (.int .u8 0)).setCell ⟨(w.heap.size + 1), 7, none⟩ (.int .u8 0)).setCell ⟨(w.heap.size + 1), 8, none⟩ (.int .i64 0)).setCell ⟨(w.heap.size + 1), 9, none⟩ (.int .i64 0)).setCell ⟨(w.heap.size + 1), 10, none⟩ (.int .i64 0)).setCell ⟨(w.heap.size + 1), 11, none⟩ (.slice none 0 0)).setCell ⟨(w.heap.size + 1), 12, none⟩ (.slice none 0 0)) = w7 at *
    clear z0 z1 z2 z3 z4 z5 z6 z7 z8 z9 z10 z11 z12 zf hk7
    obtain ⟨r0, r1, r2, r3, r4, r5, r6, r7, r8, r9, r10, r11, r12⟩ := HZ7.out.all
    refine bodyPost_ret (v := .tuple #[.agg #[.int .u8 (txZ.d.x0 : Int), .int .u8 (txZ.d.x1 : Int), .int .u8 (txZ.d.x2 : Int), .int .u8 (txZ.d.x3 : Int), .int .u8 (txZ.d.x4 : Int), .int .u8 (txZ.d.x5 : Int), .int .u8 (txZ.d.x6 : Int), .int .u8 (txZ.d.x7 : Int), .int .i64 txZ.no, .int .i64 txZ.fe, .int .i64 txZ.ki, .slice txZ.A txZ.n txZ.c, .slice txZ.A' txZ.n' txZ.c'], .int .i64 ck]) (by simp [results, Try.results28, go_sem, r0, r1, r2, r3, r4, r5, r6, r7, r8, r9, r10, r11, r12]) rfl (Hgn.out Hc0.out _ _ ⟨rfl, Hw7.out⟩)
/-- What Sign gives back, in one form. -/
def SgOut (t : TxV) (k : D8) (L : List En) (o : TxV) (err : Int) (L' : List En) : Prop :=
  err = checkT t.no t.fe t.ki t.bo [] ∧ ((err = 0 ∧ o.d = k ∧ o.no = t.no ∧ o.fe = t.fe ∧ o.ki = t.ki ∧ o.bo = t.bo ∧ o.si = sigL (signE L ⟨k, askedT k t.no t.fe t.ki t.bo⟩).2 ∧ L' = (signE L ⟨k, askedT k t.no t.fe t.ki t.bo⟩).1) ∨ (err ≠ 0 ∧ o = txZ ∧ L' = L))
theorem txZ_at (w : World) : txZ.At w := ⟨⟨by decide, by decide, by decide, by decide, by decide, by decide, by decide, by decide⟩, Rd.empty, Rd.empty, Nat.le_refl _, Nat.le_refl _, by simp [txZ], by simp [txZ], by simp [txZ], by simp [txZ]⟩
theorem txZ_owns (w : World) : txZ.Owns w := ⟨World.ownsRow_nil _ _ _ _, World.ownsRow_nil _ _ _ _⟩
theorem GivesSg.form {t : TxV} {k : D8} {B bk mb : Nat} {L : List En} {w w' : World} {e : Ending} (h : GivesSg t k B bk mb L w e w') (hB : BookAt w B bk mb L) :
    ∃ (o : TxV) (err : Int) (L' : List En), e = .returned (.tuple #[.agg #[.int .u8 (o.d.x0 : Int), .int .u8 (o.d.x1 : Int), .int .u8 (o.d.x2 : Int), .int .u8 (o.d.x3 : Int), .int .u8 (o.d.x4 : Int), .int .u8 (o.d.x5 : Int), .int .u8 (o.d.x6 : Int), .int .u8 (o.d.x7 : Int), .int .i64 o.no, .int .i64 o.fe, .int .i64 o.ki, .slice o.A o.n o.c, .slice o.A' o.n' o.c'], .int .i64 err]) ∧ SgOut t k L o err L' ∧ o.At w' ∧ o.Owns w' ∧ BookAt w' B bk mb L' ∧ Kept w w' bk mb := by
  unfold GivesSg at h
  by_cases hc : checkT t.no t.fe t.ki t.bo [] = 0
  · rw [if_pos hc] at h
    obtain ⟨o, h1, a0, a1, a2, a3, a4, a5, a6, a7, a8, a9⟩ := h
    exact ⟨o, 0, _, h1, ⟨hc.symm, .inl ⟨rfl, a0, a1, a2, a3, a4, a5, rfl⟩⟩, a6, a7, a8, a9⟩
  · rw [if_neg hc] at h
    obtain ⟨h1, hb⟩ := h
    exact ⟨txZ, _, L, h1, ⟨rfl, .inr ⟨hc, rfl, rfl⟩⟩, txZ_at _, txZ_owns _, hB.below hb, Kept.of_below hb (Nat.lt_of_lt_of_le hB.lb hB.hB) hB.places.lt⟩
end Go.Proofs.Ytebepgoaofhelaa
