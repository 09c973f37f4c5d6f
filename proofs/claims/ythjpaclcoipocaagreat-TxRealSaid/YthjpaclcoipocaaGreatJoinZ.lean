/- What is asked by a transaction: the walk of Asked. Conditions: bounds on the bytes. A transaction in a box: its key, its signature, its rows. Nothing of the program stands in it but its tables, so there is no condition. -/
import Derived.Test.YthjpaclcoipocaaGreatJoinC
import Derived.Test.YthjpaclcoipocaaGreatJoinH
import Derived.Test.YthjpaclcoipocaaGreatInv
namespace Go.Proofs.YthjpaclcoipocaaGreat
open Go.RowKit Go.Lib


/-- What a transaction asks. -/
def txW : ByteArray := ⟨#[116, 120]⟩
def askedT (d : D8) (no fe ki : Int) (bo : List Nat) : D8 := hashWord (hashOf (headT d no fe ki bo)) (wordB txW)
theorem headT_small {d : D8} {no fe ki : Int} {bo : List Nat} (hd : d.ok) (hb : ∀ x ∈ bo, x < 256) (h1 : bo.length ≤ 100000000) : ∀ x ∈ headT d no fe ki bo, x < 256 := by
  intro x hx
  have := bytesT_small (d := d) (no := no) (fe := fe) (ki := ki) (bo := bo) (si := []) hd hb (by simp) h1 (by simp) x
  exact this (by unfold bytesT; exact List.mem_append.2 (.inl hx))
theorem hs_okT (s : Hs) : s.out.ok := D8.of_ok _
theorem hashOf_ok (l : List Nat) : (hashOf l).ok := hs_okT _
theorem hashWord_ok (d : D8) (l : List Nat) : (hashWord d l).ok := hs_okT _
theorem own_capT {w : World} {base n c : Nat} {A : Option Addr} {xs : List Value} (h : w.ownsRow base 5 1 (.slice A n c) n xs) : n ≤ c := by
  rcases h.2 with ⟨h1, h2⟩ | ⟨g, cap, cur, h1, _, _, h4, _⟩
  · omega
  · injection h1 with _ _ h1; omega
set_option maxRecDepth 100000 in
set_option maxHeartbeats 2000000 in
theorem asked_any (t : TxV) (w : World) (h : t.At w) : Calls Tryz.prog 13 #[.agg #[.int .u8 (t.d.x0 : Int), .int .u8 (t.d.x1 : Int), .int .u8 (t.d.x2 : Int), .int .u8 (t.d.x3 : Int), .int .u8 (t.d.x4 : Int), .int .u8 (t.d.x5 : Int), .int .u8 (t.d.x6 : Int), .int .u8 (t.d.x7 : Int), .int .i64 t.no, .int .i64 t.fe, .int .i64 t.ki, .slice t.A t.n t.c, .slice t.A' t.n' t.c']] w fun e w' => e = .returned (.agg #[.int .u8 ((askedT t.d t.no t.fe t.ki t.bo).x0 : Int), .int .u8 ((askedT t.d t.no t.fe t.ki t.bo).x1 : Int), .int .u8 ((askedT t.d t.no t.fe t.ki t.bo).x2 : Int), .int .u8 ((askedT t.d t.no t.fe t.ki t.bo).x3 : Int), .int .u8 ((askedT t.d t.no t.fe t.ki t.bo).x4 : Int), .int .u8 ((askedT t.d t.no t.fe t.ki t.bo).x5 : Int), .int .u8 ((askedT t.d t.no t.fe t.ki t.bo).x6 : Int), .int .u8 ((askedT t.d t.no t.fe t.ki t.bo).x7 : Int)]) ∧ Below w.heap.size w w' := by
  have hb0 := h_two w (.cells #[.int .u8 (t.d.x0 : Int), .int .u8 (t.d.x1 : Int), .int .u8 (t.d.x2 : Int), .int .u8 (t.d.x3 : Int), .int .u8 (t.d.x4 : Int), .int .u8 (t.d.x5 : Int), .int .u8 (t.d.x6 : Int), .int .u8 (t.d.x7 : Int), .int .i64 t.no, .int .i64 t.fe, .int .i64 t.ki, .slice t.A t.n t.c, .slice t.A' t.n' t.c'] 32) (.cells #[.int .u8 0, .int .u8 0, .int .u8 0, .int .u8 0, .int .u8 0, .int .u8 0, .int .u8 0, .int .u8 0] 30)
  have H0 := Lib.hid (h.up hb0)
  have HX : Hid (((w.alloc (.cells #[.int .u8 (t.d.x0 : Int), .int .u8 (t.d.x1 : Int), .int .u8 (t.d.x2 : Int), .int .u8 (t.d.x3 : Int), .int .u8 (t.d.x4 : Int), .int .u8 (t.d.x5 : Int), .int .u8 (t.d.x6 : Int), .int .u8 (t.d.x7 : Int), .int .i64 t.no, .int .i64 t.fe, .int .i64 t.ki, .slice t.A t.n t.c, .slice t.A' t.n' t.c'] 32)).alloc (.cells #[.int .u8 0, .int .u8 0, .int .u8 0, .int .u8 0, .int .u8 0, .int .u8 0, .int .u8 0, .int .u8 0] 30)).heap[w.heap.size + 1]? = some (.cells #[.int .u8 0, .int .u8 0, .int .u8 0, .int .u8 0, .int .u8 0, .int .u8 0, .int .u8 0, .int .u8 0] 30 (0, 0))) := h_at (by simp)
  have HT : Hid (Box t ((w.alloc (.cells #[.int .u8 (t.d.x0 : Int), .int .u8 (t.d.x1 : Int), .int .u8 (t.d.x2 : Int), .int .u8 (t.d.x3 : Int), .int .u8 (t.d.x4 : Int), .int .u8 (t.d.x5 : Int), .int .u8 (t.d.x6 : Int), .int .u8 (t.d.x7 : Int), .int .i64 t.no, .int .i64 t.fe, .int .i64 t.ki, .slice t.A t.n t.c, .slice t.A' t.n' t.c'] 32)).alloc (.cells #[.int .u8 0, .int .u8 0, .int .u8 0, .int .u8 0, .int .u8 0, .int .u8 0, .int .u8 0, .int .u8 0] 30)) w.heap.size) := block_alloc (heap_alloc_new w (.cells #[.int .u8 (t.d.x0 : Int), .int .u8 (t.d.x1 : Int), .int .u8 (t.d.x2 : Int), .int .u8 (t.d.x3 : Int), .int .u8 (t.d.x4 : Int), .int .u8 (t.d.x5 : Int), .int .u8 (t.d.x6 : Int), .int .u8 (t.d.x7 : Int), .int .i64 t.no, .int .i64 t.fe, .int .i64 t.ki, .slice t.A t.n t.c, .slice t.A' t.n' t.c'] 32)) (.cells #[.int .u8 0, .int .u8 0, .int .u8 0, .int .u8 0, .int .u8 0, .int .u8 0, .int .u8 0, .int .u8 0] 30)
  have Hb0 := Lib.hid hb0
  have Hz0 : Hid (((w.alloc (.cells #[.int .u8 (t.d.x0 : Int), .int .u8 (t.d.x1 : Int), .int .u8 (t.d.x2 : Int), .int .u8 (t.d.x3 : Int), .int .u8 (t.d.x4 : Int), .int .u8 (t.d.x5 : Int), .int .u8 (t.d.x6 : Int), .int .u8 (t.d.x7 : Int), .int .i64 t.no, .int .i64 t.fe, .int .i64 t.ki, .slice t.A t.n t.c, .slice t.A' t.n' t.c'] 32)).alloc (.cells #[.int .u8 0, .int .u8 0, .int .u8 0, .int .u8 0, .int .u8 0, .int .u8 0, .int .u8 0, .int .u8 0] 30)).heap.size = w.heap.size + 2) := Lib.hid (by simp)
  have Hlen : Hid (t.bo.length ≤ 100000000) := by have := h.len1; have := h.m1; show _ ≤ _; omega
  have Hlt : Hid (∀ x ∈ headT t.d t.no t.fe t.ki t.bo, x < 256) := headT_small h.ok h.b1 Hlen.out
  have Hll := Lib.hid (headT_len t.d t.no t.fe t.ki t.bo)
  clear h hb0
  obtain ⟨y0, y1, y2, y3, y4, y5, y6, y7, y8, y9, y10, y11, y12⟩ := HT.out.all
  go_enter Tryz.func13, Tryz.ntmps13
  go_wp2_with fail
  refine (unsigned_any t _ H0.out).mono ?_
  rintro e w1 ⟨A1, n1, c1, rfl, ho1, hn1, hb1⟩
  have Hx1 := Lib.hid (block_below HX.out hb1 (by rw [Hz0.out]; omega))
  have Hb1 := Lib.hid (Hb0.out.trans (hb1.mono Hb0.out.size))
  have HO1 := Lib.hid ho1
  have hcap := own_capT ho1
  have hn1' : n1 ≤ 200000000 := by have := Hll.out; have := Hlen.out; omega
  clear hb1 ho1 hn1 y0 y1 y2 y3 y4 y5 y6 y7 y8 y9 y10 y11 y12
  go_wp2_with fail
  refine (hof_any A1 n1 c1 _ w1 (Rd.of_own HO1.out) (by omega) hcap Hlt.out).mono ?_
  rintro e w2 ⟨rfl, hb2⟩
  have Hx2 := Lib.hid (block_below Hx1.out hb2 (block_lt Hx1.out)); have Hb2 := Lib.hid (Hb1.out.trans (hb2.mono Hb1.out.size))
  clear hb2
  go_wp2_with fail
  refine (word_any (hashOf (headT t.d t.no t.fe t.ki t.bo)) txW w2 (hashOf_ok _) (by decide)).mono ?_
  rintro e w3 ⟨rfl, hb3⟩
  have hbx := block_below Hx2.out hb3 (block_lt Hx2.out)
  obtain ⟨zf, r0, r1, r2, r3, r4, r5, r6, r7⟩ := free8 hbx
  have Hbx := Lib.hid hbx
  have Hbw := Lib.hid (Hb2.out.trans (hb3.mono Hb2.out.size))
  have Hout : Hid (hashWord (hashOf (headT t.d t.no t.fe t.ki t.bo)) (wordB txW) = askedT t.d t.no t.fe t.ki t.bo) := Lib.hid rfl
  clear hb3 hbx
  generalize hashWord (hashOf (headT t.d t.no t.fe t.ki t.bo)) (wordB txW) = d at *
  go_wp2
  clear zf r0 r1 r2 r3 r4 r5 r6 r7
  have h8 := set8 Hbx.out (.int .u8 (d.x0 : Int)) (.int .u8 (d.x1 : Int)) (.int .u8 (d.x2 : Int)) (.int .u8 (d.x3 : Int)) (.int .u8 (d.x4 : Int)) (.int .u8 (d.x5 : Int)) (.int .u8 (d.x6 : Int)) (.int .u8 (d.x7 : Int))
  have hg8 := grown_set8 w3 (w.heap.size + 1) (.int .u8 (d.x0 : Int)) (.int .u8 (d.x1 : Int)) (.int .u8 (d.x2 : Int)) (.int .u8 (d.x3 : Int)) (.int .u8 (d.x4 : Int)) (.int .u8 (d.x5 : Int)) (.int .u8 (d.x6 : Int)) (.int .u8 (d.x7 : Int))
  generalize ((((((((w3.setCell ⟨w.heap.size + 1, 0, none⟩ (.int .u8 (d.x0 : Int))).setCell ⟨w.heap.size + 1, 1, none⟩ (.int .u8 (d.x1 : Int))).setCell ⟨w.heap.size + 1, 2, none⟩ (.int .u8 (d.x2 : Int))).setCell ⟨w.heap.size + 1, 3, none⟩ (.int .u8 (d.x3 : Int))).setCell ⟨w.heap.size + 1, 4, none⟩ (.int .u8 (d.x4 : Int))).setCell ⟨w.heap.size + 1, 5, none⟩ (.int .u8 (d.x5 : Int))).setCell ⟨w.heap.size + 1, 6, none⟩ (.int .u8 (d.x6 : Int))).setCell ⟨w.heap.size + 1, 7, none⟩ (.int .u8 (d.x7 : Int))) = w4 at *
  obtain ⟨zf, r0, r1, r2, r3, r4, r5, r6, r7⟩ := free8 h8
  have Hb2 := Lib.hid (Hbw.out.grown hg8 Hbw.out.size (fun k hk => by injection hk with hk; omega))
  clear h8 hg8
  refine bodyPost_ret (v := .agg #[.int .u8 (d.x0 : Int), .int .u8 (d.x1 : Int), .int .u8 (d.x2 : Int), .int .u8 (d.x3 : Int), .int .u8 (d.x4 : Int), .int .u8 (d.x5 : Int), .int .u8 (d.x6 : Int), .int .u8 (d.x7 : Int)]) (by simp [results, Tryz.results13, go_sem, r0, r1, r2, r3, r4, r5, r6, r7]) rfl ⟨by rw [Hout.out], Hb2.out⟩
theorem types_manyT : Tryz.prog.types.size + Made.depth = 267 := by kernel_rfl
end Go.Proofs.YthjpaclcoipocaaGreat
namespace Go.Proofs.YthjpaclcoipocaaGreat
open Go.RowKit Go.Lib


def TxV.withKey (t : TxV) (k : D8) : TxV := ⟨k, t.no, t.fe, t.ki, t.A, t.n, t.c, t.A', t.n', t.c', t.bo, t.si⟩
def TxV.withSig (t : TxV) (A : Option Addr) (n c : Nat) (s : List Nat) : TxV := ⟨t.d, t.no, t.fe, t.ki, t.A, t.n, t.c, A, n, c, t.bo, s⟩
def txZ : TxV := ⟨d0, 0, 0, 0, none, 0, 0, none, 0, 0, [], []⟩
theorem setKey {w : World} {b : Nat} {t : TxV} (h : Box t w b) (k : D8) : Box (t.withKey k) (((((((((w.setCell ⟨b, 0, none⟩ (.int .u8 (k.x0 : Int))).setCell ⟨b, 1, none⟩ (.int .u8 (k.x1 : Int))).setCell ⟨b, 2, none⟩ (.int .u8 (k.x2 : Int))).setCell ⟨b, 3, none⟩ (.int .u8 (k.x3 : Int))).setCell ⟨b, 4, none⟩ (.int .u8 (k.x4 : Int))).setCell ⟨b, 5, none⟩ (.int .u8 (k.x5 : Int))).setCell ⟨b, 6, none⟩ (.int .u8 (k.x6 : Int))).setCell ⟨b, 7, none⟩ (.int .u8 (k.x7 : Int)))) b ∧ w.grownBy (((((((((w.setCell ⟨b, 0, none⟩ (.int .u8 (k.x0 : Int))).setCell ⟨b, 1, none⟩ (.int .u8 (k.x1 : Int))).setCell ⟨b, 2, none⟩ (.int .u8 (k.x2 : Int))).setCell ⟨b, 3, none⟩ (.int .u8 (k.x3 : Int))).setCell ⟨b, 4, none⟩ (.int .u8 (k.x4 : Int))).setCell ⟨b, 5, none⟩ (.int .u8 (k.x5 : Int))).setCell ⟨b, 6, none⟩ (.int .u8 (k.x6 : Int))).setCell ⟨b, 7, none⟩ (.int .u8 (k.x7 : Int)))) (some b) := by
  refine ⟨?_, (((((((grown_set1 w b 0 _).trans (grown_set1 _ b 1 _)).trans (grown_set1 _ b 2 _)).trans (grown_set1 _ b 3 _)).trans (grown_set1 _ b 4 _)).trans (grown_set1 _ b 5 _)).trans (grown_set1 _ b 6 _)).trans (grown_set1 _ b 7 _)⟩
  have h1 := Joins.block_setCell (i := 0) h (.int .u8 (k.x0 : Int))
  have h2 := Joins.block_setCell (i := 1) h1 (.int .u8 (k.x1 : Int))
  have h3 := Joins.block_setCell (i := 2) h2 (.int .u8 (k.x2 : Int))
  have h4 := Joins.block_setCell (i := 3) h3 (.int .u8 (k.x3 : Int))
  have h5 := Joins.block_setCell (i := 4) h4 (.int .u8 (k.x4 : Int))
  have h6 := Joins.block_setCell (i := 5) h5 (.int .u8 (k.x5 : Int))
  have h7 := Joins.block_setCell (i := 6) h6 (.int .u8 (k.x6 : Int))
  have h8 := Joins.block_setCell (i := 7) h7 (.int .u8 (k.x7 : Int))
  unfold Box TxV.withKey
  simpa using h8
theorem setSig {w : World} {b : Nat} {t : TxV} (h : Box t w b) (A : Option Addr) (n c : Nat) (s : List Nat) : Box (t.withSig A n c s) (w.setCell ⟨b, 12, none⟩ (.slice A n c)) b ∧ w.grownBy (w.setCell ⟨b, 12, none⟩ (.slice A n c)) (some b) := by
  refine ⟨?_, grown_set1 w b 12 _⟩
  have h1 := Joins.block_setCell (i := 12) h (.slice A n c)
  unfold Box TxV.withSig
  simpa using h1
theorem own_box {w w' : World} {base n b : Nat} {v : Value} {xs : List Value} {t : TxV} (ho : w.ownsRow base 5 1 v n xs) (hb : Box t w b) (hg : w.grownBy w' (some b)) : w'.ownsRow base 5 1 v n xs := ho.kept hg (.inr (fun e => own_ne ho hb (by decide) e.symm))
/-- A transaction whose bytes lie in rows of their own. -/
def TxV.Owns (t : TxV) (w : World) : Prop := w.ownsRow 0 5 1 (.slice t.A t.n t.c) t.n (bv t.bo) ∧ w.ownsRow 0 5 1 (.slice t.A' t.n' t.c') t.n' (bv t.si)
theorem TxV.Owns.below {t : TxV} {w w' : World} (h : t.Owns w) (hb : Below w.heap.size w w') : t.Owns w' := ⟨own_below h.1 hb, own_below h.2 hb⟩
theorem TxV.Owns.box {t o : TxV} {w w' : World} {b : Nat} (h : t.Owns w) (hb : Box o w b) (hg : w.grownBy w' (some b)) : t.Owns w' := ⟨own_box h.1 hb hg, own_box h.2 hb hg⟩
theorem own_down0 {w : World} {base n : Nat} {v : Value} {xs : List Value} (h : w.ownsRow base 5 1 v n xs) : w.ownsRow 0 5 1 v n xs := by
  refine ⟨h.1, ?_⟩
  rcases h.2 with h1 | ⟨g, cap, cur, h1, h2, h3⟩
  · exact .inl h1
  · exact .inr ⟨g, cap, cur, h1, Nat.zero_le _, h3⟩
theorem txZ_at (w : World) : txZ.At w := ⟨⟨by decide, by decide, by decide, by decide, by decide, by decide, by decide, by decide⟩, Rd.empty, Rd.empty, Nat.le_refl _, Nat.le_refl _, by simp [txZ], by simp [txZ], by simp [txZ], by simp [txZ]⟩
theorem txZ_owns (w : World) : txZ.Owns w := ⟨World.ownsRow_nil _ _ _ _, World.ownsRow_nil _ _ _ _⟩
theorem TxV.At.owned {t : TxV} {w w' : World} (h : t.At w) (ho : t.Owns w') : t.At w' := ⟨h.ok, Rd.of_own ho.1, Rd.of_own ho.2, h.c1, h.c2, h.b1, h.b2, h.m1, h.m2⟩
end Go.Proofs.YthjpaclcoipocaaGreat
