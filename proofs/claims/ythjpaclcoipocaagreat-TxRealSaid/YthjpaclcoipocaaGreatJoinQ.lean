/- A transaction signed by a real signer: the walk of Sign. Conditions: bounds on the bytes, a ring that signs what is asked. Whether a transaction is signed, by real signatures: the walk of Verify. Conditions: bounds on the bytes. -/
import Derived.Test.YthjpaclcoipocaaGreatJoinZ
import Derived.Test.YthjpaclcoipocaaGreatNqA
namespace Go.Proofs.YthjpaclcoipocaaGreat
open Go.RowKit Go.Lib


/-- A transaction whose bytes lie in rows of their own, none of them in G. -/
def TxV.Off (t : TxV) (w : World) (G : Nat → Prop) : Prop :=
  (w.ownsRow 0 5 1 (.slice t.A t.n t.c) t.n (bv t.bo) ∧ ∀ g, (Value.slice t.A t.n t.c).ownBlock = some g → ¬ G g) ∧ w.ownsRow 0 5 1 (.slice t.A' t.n' t.c') t.n' (bv t.si) ∧ ∀ g, (Value.slice t.A' t.n' t.c').ownBlock = some g → ¬ G g
theorem TxV.Off.owns {t : TxV} {w : World} {G : Nat → Prop} (h : t.Off w G) : t.Owns w := ⟨h.1.1, h.2.1⟩
theorem TxV.Off.chg {t : TxV} {w w' : World} {G : Nat → Prop} (h : t.Off w G) (hc : Chg G w w') : t.Owns w' :=
  ⟨own_keep h.1.1 (fun g hg => hc.block g (h.1.1.lt g hg).2 (h.1.2 g hg)), own_keep h.2.1 (fun g hg => hc.block g (h.2.1.lt g hg).2 (h.2.2 g hg))⟩
/-- What Sign gives back, signed by a ring. -/
def GivesSr (t : TxV) (k q : D8) (B : Nat) (F : Nat → Prop) (T0 T1 br : Nat) (r : RingM) (w : World) (e : Ending) (w' : World) : Prop :=
  ∃ (t' : TxV) (F' : Nat → Prop), e = .returned (.tuple #[.agg #[.int .u8 (t'.d.x0 : Int), .int .u8 (t'.d.x1 : Int), .int .u8 (t'.d.x2 : Int), .int .u8 (t'.d.x3 : Int), .int .u8 (t'.d.x4 : Int), .int .u8 (t'.d.x5 : Int), .int .u8 (t'.d.x6 : Int), .int .u8 (t'.d.x7 : Int), .int .i64 t'.no, .int .i64 t'.fe, .int .i64 t'.ki, .slice t'.A t'.n t'.c, .slice t'.A' t'.n' t'.c'], .int .i64 0]) ∧ t'.d = k ∧ t'.no = t.no ∧ t'.fe = t.fe ∧ t'.ki = t.ki ∧ t'.bo = t.bo ∧ t'.si = (r.sign q).2.1 ∧ t'.At w' ∧ t'.Off w' F' ∧
    RingAt w' B F' T0 T1 br (r.sign q).1 ∧ Chg F w w' ∧ ∀ k, F' k → F k ∨ w.heap.size ≤ k
set_option maxRecDepth 100000 in
set_option maxHeartbeats 4000000 in
theorem txsignR_any (t : TxV) (k : D8) {B T0 T1 br : Nat} {F : Nat → Prop} {r : RingM} (w : World) (h : t.At w) (a : RingAt w B F T0 T1 br r) (hk : k = rootD (keysD r.secret r.h) r.h) (hck : checkT t.no t.fe t.ki t.bo [] = 0) (hsg : (r.sign (askedT k t.no t.fe t.ki t.bo)).2.2 = 0) :
    Calls Tryz.prog 5 #[.agg #[.int .u8 (t.d.x0 : Int), .int .u8 (t.d.x1 : Int), .int .u8 (t.d.x2 : Int), .int .u8 (t.d.x3 : Int), .int .u8 (t.d.x4 : Int), .int .u8 (t.d.x5 : Int), .int .u8 (t.d.x6 : Int), .int .u8 (t.d.x7 : Int), .int .i64 t.no, .int .i64 t.fe, .int .i64 t.ki, .slice t.A t.n t.c, .slice t.A' t.n' t.c'], .iface 48 (.agg #[.pointer (some ⟨br, 0, none⟩)])] w (GivesSr t k (askedT k t.no t.fe t.ki t.bo) B F T0 T1 br r w) := by
  have hna := nil_rsign br
  have hme := meth_rsign br
  have hke := meth_rkey br
  rw [types_manyT] at hna hme hke
  have Hk : Hid k.ok := Lib.hid (by rw [hk]; exact topD_ok _ _)
  have hb0 := h_two w (.cells #[.int .u8 (t.d.x0 : Int), .int .u8 (t.d.x1 : Int), .int .u8 (t.d.x2 : Int), .int .u8 (t.d.x3 : Int), .int .u8 (t.d.x4 : Int), .int .u8 (t.d.x5 : Int), .int .u8 (t.d.x6 : Int), .int .u8 (t.d.x7 : Int), .int .i64 t.no, .int .i64 t.fe, .int .i64 t.ki, .slice t.A t.n t.c, .slice t.A' t.n' t.c'] 32) (.cells #[.int .u8 0, .int .u8 0, .int .u8 0, .int .u8 0, .int .u8 0, .int .u8 0, .int .u8 0, .int .u8 0, .int .i64 0, .int .i64 0, .int .i64 0, .slice none 0 0, .slice none 0 0] 32)
  have H0 := Lib.hid (h.up hb0)
  have HZ : Hid (Box txZ ((w.alloc (.cells #[.int .u8 (t.d.x0 : Int), .int .u8 (t.d.x1 : Int), .int .u8 (t.d.x2 : Int), .int .u8 (t.d.x3 : Int), .int .u8 (t.d.x4 : Int), .int .u8 (t.d.x5 : Int), .int .u8 (t.d.x6 : Int), .int .u8 (t.d.x7 : Int), .int .i64 t.no, .int .i64 t.fe, .int .i64 t.ki, .slice t.A t.n t.c, .slice t.A' t.n' t.c'] 32)).alloc (.cells #[.int .u8 0, .int .u8 0, .int .u8 0, .int .u8 0, .int .u8 0, .int .u8 0, .int .u8 0, .int .u8 0, .int .i64 0, .int .i64 0, .int .i64 0, .slice none 0 0, .slice none 0 0] 32)) (w.heap.size + 1)) := h_at (by simp)
  have HT : Hid (Box t ((w.alloc (.cells #[.int .u8 (t.d.x0 : Int), .int .u8 (t.d.x1 : Int), .int .u8 (t.d.x2 : Int), .int .u8 (t.d.x3 : Int), .int .u8 (t.d.x4 : Int), .int .u8 (t.d.x5 : Int), .int .u8 (t.d.x6 : Int), .int .u8 (t.d.x7 : Int), .int .i64 t.no, .int .i64 t.fe, .int .i64 t.ki, .slice t.A t.n t.c, .slice t.A' t.n' t.c'] 32)).alloc (.cells #[.int .u8 0, .int .u8 0, .int .u8 0, .int .u8 0, .int .u8 0, .int .u8 0, .int .u8 0, .int .u8 0, .int .i64 0, .int .i64 0, .int .i64 0, .slice none 0 0, .slice none 0 0] 32)) w.heap.size) := block_alloc (heap_alloc_new w (.cells #[.int .u8 (t.d.x0 : Int), .int .u8 (t.d.x1 : Int), .int .u8 (t.d.x2 : Int), .int .u8 (t.d.x3 : Int), .int .u8 (t.d.x4 : Int), .int .u8 (t.d.x5 : Int), .int .u8 (t.d.x6 : Int), .int .u8 (t.d.x7 : Int), .int .i64 t.no, .int .i64 t.fe, .int .i64 t.ki, .slice t.A t.n t.c, .slice t.A' t.n' t.c'] 32)) (.cells #[.int .u8 0, .int .u8 0, .int .u8 0, .int .u8 0, .int .u8 0, .int .u8 0, .int .u8 0, .int .u8 0, .int .i64 0, .int .i64 0, .int .i64 0, .slice none 0 0, .slice none 0 0] 32)
  have Hb0 := Lib.hid hb0
  have Hz0 : Hid (((w.alloc (.cells #[.int .u8 (t.d.x0 : Int), .int .u8 (t.d.x1 : Int), .int .u8 (t.d.x2 : Int), .int .u8 (t.d.x3 : Int), .int .u8 (t.d.x4 : Int), .int .u8 (t.d.x5 : Int), .int .u8 (t.d.x6 : Int), .int .u8 (t.d.x7 : Int), .int .i64 t.no, .int .i64 t.fe, .int .i64 t.ki, .slice t.A t.n t.c, .slice t.A' t.n' t.c'] 32)).alloc (.cells #[.int .u8 0, .int .u8 0, .int .u8 0, .int .u8 0, .int .u8 0, .int .u8 0, .int .u8 0, .int .u8 0, .int .i64 0, .int .i64 0, .int .i64 0, .slice none 0 0, .slice none 0 0] 32)).heap.size = w.heap.size + 2) := Lib.hid (by simp)
  have HA := Lib.hid (fun (u : World) (hu : Below w.heap.size w u) => a.below hu)
  have HFl : Hid (∀ z, F z → z < w.heap.size) := Lib.hid (fun z hz => (a.foot_lt z (.inl hz)).2)
  have HT1l : Hid (T1 ≤ w.heap.size) := Lib.hid a.b1
  have HKy := Lib.hid (fun (u : World) (hu : Below w.heap.size w u) => by have h1 := rkey_any (a.below hu); rw [← hk] at h1; exact h1)
  have Hb1 := Lib.hid h.b1; have Hm1 := Lib.hid h.m1; have Hl1 := Lib.hid h.len1
  have hck0 := Lib.hid hck; have Hsg := Lib.hid hsg; have HR0 := Lib.hid a.ok
  clear h hb0 a hk hck hsg
  obtain ⟨y0, y1, y2, y3, y4, y5, y6, y7, y8, y9, y10, y11, y12⟩ := HT.out.all
  go_enter Tryz.func5, Tryz.ntmps5
  go_wp2_with fail
  refine (txclone_any t _ H0.out).mono ?_
  rintro e w1 ⟨A1, n1, c1, A2, n2, c2, m2, rfl, ho1, hm1, hm2, ho2, hn1, hn2, hb1⟩
  have HZ1 := Lib.hid (HZ.out.below hb1)
  have Hw1 := Lib.hid (Hb0.out.trans (hb1.mono Hb0.out.size))
  rw [Hz0.out] at ho1
  have HO1 := Lib.hid ho1
  have hcap := own_capT ho1
  subst hn1 hn2
  have hz1 : w.heap.size + 2 ≤ w1.heap.size := by have := hb1.size; rw [Hz0.out] at this; exact this
  clear hb1 ho1 hm1 hm2 ho2 y0 y1 y2 y3 y4 y5 y6 y7 y8 y9 y10 y11 y12 HZ HT Hb0 H0 Hz0
  have HT2 : Hid (Box ⟨t.d, t.no, t.fe, t.ki, A1, t.bo.length, c1, A2, t.si.length, c2, t.bo, t.si⟩ (w1.alloc (.cells #[.int .u8 (t.d.x0 : Int), .int .u8 (t.d.x1 : Int), .int .u8 (t.d.x2 : Int), .int .u8 (t.d.x3 : Int), .int .u8 (t.d.x4 : Int), .int .u8 (t.d.x5 : Int), .int .u8 (t.d.x6 : Int), .int .u8 (t.d.x7 : Int), .int .i64 t.no, .int .i64 t.fe, .int .i64 t.ki, .slice A1 t.bo.length c1, .slice A2 t.si.length c2] 32)) w1.heap.size) := heap_alloc_new w1 (.cells #[.int .u8 (t.d.x0 : Int), .int .u8 (t.d.x1 : Int), .int .u8 (t.d.x2 : Int), .int .u8 (t.d.x3 : Int), .int .u8 (t.d.x4 : Int), .int .u8 (t.d.x5 : Int), .int .u8 (t.d.x6 : Int), .int .u8 (t.d.x7 : Int), .int .i64 t.no, .int .i64 t.fe, .int .i64 t.ki, .slice A1 t.bo.length c1, .slice A2 t.si.length c2] 32)
  have HZ2 : Hid (Box txZ (w1.alloc (.cells #[.int .u8 (t.d.x0 : Int), .int .u8 (t.d.x1 : Int), .int .u8 (t.d.x2 : Int), .int .u8 (t.d.x3 : Int), .int .u8 (t.d.x4 : Int), .int .u8 (t.d.x5 : Int), .int .u8 (t.d.x6 : Int), .int .u8 (t.d.x7 : Int), .int .i64 t.no, .int .i64 t.fe, .int .i64 t.ki, .slice A1 t.bo.length c1, .slice A2 t.si.length c2] 32)) (w.heap.size + 1)) := block_alloc HZ1.out (.cells #[.int .u8 (t.d.x0 : Int), .int .u8 (t.d.x1 : Int), .int .u8 (t.d.x2 : Int), .int .u8 (t.d.x3 : Int), .int .u8 (t.d.x4 : Int), .int .u8 (t.d.x5 : Int), .int .u8 (t.d.x6 : Int), .int .u8 (t.d.x7 : Int), .int .i64 t.no, .int .i64 t.fe, .int .i64 t.ki, .slice A1 t.bo.length c1, .slice A2 t.si.length c2] 32)
  have HO2 := Lib.hid (HO1.out.alloc (.cells #[.int .u8 (t.d.x0 : Int), .int .u8 (t.d.x1 : Int), .int .u8 (t.d.x2 : Int), .int .u8 (t.d.x3 : Int), .int .u8 (t.d.x4 : Int), .int .u8 (t.d.x5 : Int), .int .u8 (t.d.x6 : Int), .int .u8 (t.d.x7 : Int), .int .i64 t.no, .int .i64 t.fe, .int .i64 t.ki, .slice A1 t.bo.length c1, .slice A2 t.si.length c2] 32))
  have Hw2 := Lib.hid (Hw1.out.alloc Hw1.out.size (.cells #[.int .u8 (t.d.x0 : Int), .int .u8 (t.d.x1 : Int), .int .u8 (t.d.x2 : Int), .int .u8 (t.d.x3 : Int), .int .u8 (t.d.x4 : Int), .int .u8 (t.d.x5 : Int), .int .u8 (t.d.x6 : Int), .int .u8 (t.d.x7 : Int), .int .i64 t.no, .int .i64 t.fe, .int .i64 t.ki, .slice A1 t.bo.length c1, .slice A2 t.si.length c2] 32))
  go_upto_region 4 with fail
  have hz2 : w1.heap.size < (w1.alloc (.cells #[.int .u8 (t.d.x0 : Int), .int .u8 (t.d.x1 : Int), .int .u8 (t.d.x2 : Int), .int .u8 (t.d.x3 : Int), .int .u8 (t.d.x4 : Int), .int .u8 (t.d.x5 : Int), .int .u8 (t.d.x6 : Int), .int .u8 (t.d.x7 : Int), .int .i64 t.no, .int .i64 t.fe, .int .i64 t.ki, .slice A1 t.bo.length c1, .slice A2 t.si.length c2] 32)).heap.size := by simp
  generalize w1.alloc (.cells #[.int .u8 (t.d.x0 : Int), .int .u8 (t.d.x1 : Int), .int .u8 (t.d.x2 : Int), .int .u8 (t.d.x3 : Int), .int .u8 (t.d.x4 : Int), .int .u8 (t.d.x5 : Int), .int .u8 (t.d.x6 : Int), .int .u8 (t.d.x7 : Int), .int .i64 t.no, .int .i64 t.fe, .int .i64 t.ki, .slice A1 t.bo.length c1, .slice A2 t.si.length c2] 32) = w2 at *
  obtain ⟨t1, h1⟩ : ∃ t1 : TxV, t1 = ⟨t.d, t.no, t.fe, t.ki, A1, t.bo.length, c1, A2, t.si.length, c2, t.bo, t.si⟩ := ⟨_, rfl⟩
  rw [← h1] at HT2
  have H1 := Lib.hid h1
  clear h1 HZ1 HO1 Hw1
  generalize w1.heap.size = b6 at *
  go_wp2_with fail
  refine (HKy.out w2 Hw2.out).mono ?_
  rintro e w3 ⟨rfl, hb⟩
  have HT3 := Lib.hid (HT2.out.below hb); have HZ3 := Lib.hid (HZ2.out.below hb); have HO3 := Lib.hid (own_below HO2.out hb); have Hw3 := Lib.hid (Hw2.out.trans (hb.mono Hw2.out.size))
  clear hb HT2 HZ2 HO2 Hw2 hz2
  obtain ⟨y0, y1, y2, y3, y4, y5, y6, y7, y8, y9, y10, y11, y12⟩ := HT3.out.all
  have yf := block_free HT3.out
  obtain ⟨hk4, hg4⟩ := setKey HT3.out k
  go_upto_region 5 with fail
  have HT4 := Lib.hid hk4
  have HZ4 : Hid (Box txZ (((((((((w3.setCell ⟨b6, 0, none⟩ (.int .u8 (k.x0 : Int))).setCell ⟨b6, 1, none⟩ (.int .u8 (k.x1 : Int))).setCell ⟨b6, 2, none⟩ (.int .u8 (k.x2 : Int))).setCell ⟨b6, 3, none⟩ (.int .u8 (k.x3 : Int))).setCell ⟨b6, 4, none⟩ (.int .u8 (k.x4 : Int))).setCell ⟨b6, 5, none⟩ (.int .u8 (k.x5 : Int))).setCell ⟨b6, 6, none⟩ (.int .u8 (k.x6 : Int))).setCell ⟨b6, 7, none⟩ (.int .u8 (k.x7 : Int)))) (w.heap.size + 1)) := (hg4.block (w.heap.size + 1) (block_lt HZ3.out) (by intro e; injection e with e; omega)).trans HZ3.out
  have HO4 := Lib.hid (own_box HO3.out HT3.out hg4)
  have Hw4 := Lib.hid (Hw3.out.grown hg4 Hw3.out.size (fun q hq => by injection hq with hq; omega))
  generalize ((((((((w3.setCell ⟨b6, 0, none⟩ (.int .u8 (k.x0 : Int))).setCell ⟨b6, 1, none⟩ (.int .u8 (k.x1 : Int))).setCell ⟨b6, 2, none⟩ (.int .u8 (k.x2 : Int))).setCell ⟨b6, 3, none⟩ (.int .u8 (k.x3 : Int))).setCell ⟨b6, 4, none⟩ (.int .u8 (k.x4 : Int))).setCell ⟨b6, 5, none⟩ (.int .u8 (k.x5 : Int))).setCell ⟨b6, 6, none⟩ (.int .u8 (k.x6 : Int))).setCell ⟨b6, 7, none⟩ (.int .u8 (k.x7 : Int))) = w4 at *
  clear hk4 hg4 y0 y1 y2 y3 y4 y5 y6 y7 y8 y9 y10 y11 y12 yf HT3 HZ3 HO3 Hw3
  obtain ⟨t2, h2⟩ : ∃ t2 : TxV, t2 = t1.withKey k := ⟨_, rfl⟩
  rw [← h2] at HT4
  have H2 := Lib.hid h2
  clear h2
  obtain ⟨y0, y1, y2, y3, y4, y5, y6, y7, y8, y9, y10, y11, y12⟩ := HT4.out.all
  have yf := block_free HT4.out
  obtain ⟨hk5, hg5⟩ := setSig HT4.out none 0 0 []
  go_upto_region 6 with fail
  have HT5 := Lib.hid hk5
  have HZ5 : Hid (Box txZ (w4.setCell ⟨b6, 12, none⟩ (.slice none 0 0)) (w.heap.size + 1)) := (hg5.block (w.heap.size + 1) (block_lt HZ4.out) (by intro e; injection e with e; omega)).trans HZ4.out
  have HO5 := Lib.hid (own_box HO4.out HT4.out hg5)
  have Hw5 := Lib.hid (Hw4.out.grown hg5 Hw4.out.size (fun q hq => by injection hq with hq; omega))
  generalize w4.setCell ⟨b6, 12, none⟩ (.slice none 0 0) = w5 at *
  clear hk5 hg5 y0 y1 y2 y3 y4 y5 y6 y7 y8 y9 y10 y11 y12 yf HT4 HZ4 HO4 Hw4
  obtain ⟨t3, h3⟩ : ∃ t3 : TxV, t3 = t2.withSig none 0 0 [] := ⟨_, rfl⟩
  rw [← h3] at HT5
  have e3 : t3.d = k ∧ t3.no = t.no ∧ t3.fe = t.fe ∧ t3.ki = t.ki ∧ t3.A = A1 ∧ t3.n = t.bo.length ∧ t3.c = c1 ∧ t3.A' = none ∧ t3.n' = 0 ∧ t3.bo = t.bo ∧ t3.si = [] := by
    rw [h3, H2.out, H1.out]
    exact ⟨rfl, rfl, rfl, rfl, rfl, rfl, rfl, rfl, rfl, rfl, rfl⟩
  have E3 := Lib.hid e3
  have At5 : Hid (t3.At w5) := by
    obtain ⟨a0, a1, a2, a3, a4, a5, a6, a7, a8, a9, a10⟩ := e3
    exact ⟨by rw [a0]; exact Hk.out, by rw [a4, a5, a9]; exact Rd.of_own HO5.out, by rw [a7, a8, a10]; exact Rd.empty, by rw [a5, a6]; exact hcap, by omega, by rw [a9]; exact Hb1.out, by rw [a10]; simp, by rw [a5]; have := Hl1.out; have := Hm1.out; omega, by omega⟩
  clear h3 H1 H2 e3 t1 t2
  obtain ⟨y0, y1, y2, y3, y4, y5, y6, y7, y8, y9, y10, y11, y12⟩ := HT5.out.all
  go_wp2_with fail
  refine (tcheck_any t3 w5 At5.out).mono ?_
  rintro e w6 ⟨rfl, hb⟩
  have HT6 := Lib.hid (HT5.out.below hb); have HZ6 := Lib.hid (HZ5.out.below hb); have HO6 := Lib.hid (own_below HO5.out hb); have Hw6 := Lib.hid (Hw5.out.trans (hb.mono Hw5.out.size)); have At6 := Lib.hid (At5.out.up hb)
  clear hb y0 y1 y2 y3 y4 y5 y6 y7 y8 y9 y10 y11 y12 HT5 HZ5 HO5 Hw5 At5
  have hck : checkT t3.no t3.fe t3.ki t3.bo t3.si = checkT t.no t.fe t.ki t.bo [] := by
    obtain ⟨a0, a1, a2, a3, a4, a5, a6, a7, a8, a9, a10⟩ := E3.out
    rw [a1, a2, a3, a9, a10]
  rw [hck]
  clear hck
  rw [hck0.out]
  clear hck0
  have hc0 : True := trivial
  have e1 : ((0 : Int) != 0) = false := by decide
  have hz6 := block_lt HT6.out
  have hS : w6.heap[b6]? = some (.cells #[.int .u8 (t3.d.x0 : Int), .int .u8 (t3.d.x1 : Int), .int .u8 (t3.d.x2 : Int), .int .u8 (t3.d.x3 : Int), .int .u8 (t3.d.x4 : Int), .int .u8 (t3.d.x5 : Int), .int .u8 (t3.d.x6 : Int), .int .u8 (t3.d.x7 : Int), .int .i64 t3.no, .int .i64 t3.fe, .int .i64 t3.ki, .slice t3.A t3.n t3.c, .slice t3.A' t3.n' t3.c'] 32 (0, 0)) := HT6.out
  go_upto_region 9 with fail
  refine wp_region_held_drew (S := fun w' => w'.heap[b6]? = some (.cells #[.int .u8 (t3.d.x0 : Int), .int .u8 (t3.d.x1 : Int), .int .u8 (t3.d.x2 : Int), .int .u8 (t3.d.x3 : Int), .int .u8 (t3.d.x4 : Int), .int .u8 (t3.d.x5 : Int), .int .u8 (t3.d.x6 : Int), .int .u8 (t3.d.x7 : Int), .int .i64 t3.no, .int .i64 t3.fe, .int .i64 t3.ki, .slice t3.A t3.n t3.c, .slice t3.A' t3.n' t3.c'] 32 (0, 0))) (by kernel_rfl) hS (fun hHeld => ?_)
  refine takeH 0 (some 26) (v := ?_) rfl (by kernel_rfl) (by kernel_rfl) (by kernel_rfl) (by kernel_rfl) (fun _ _ _ h => h) (Or.inl ⟨by kernel_rfl, ?hy⟩) (by assumption) ?_
  case hy =>
    intro w' hSw
    try dsimp only at hSw
    first
      | (go_simp; done)
      | (go_simp; with_reducible rfl)
  simp only [Act.put, List.setIfInBounds_toArray, List.set_cons_zero, List.set_cons_succ]
  refine takeH 1 (some 27) (v := ?_) rfl (by kernel_rfl) (by kernel_rfl) (by kernel_rfl) (by kernel_rfl) (fun _ _ _ h => h) (Or.inl ⟨by kernel_rfl, ?hy⟩) (by assumption) ?_
  case hy =>
    intro w' hSw
    try dsimp only at hSw
    have x := block_cell hSw
    have x0 := x 0; have x1 := x 1; have x2 := x 2; have x3 := x 3; have x4 := x 4; have x5 := x 5; have x6 := x 6; have x7 := x 7; have x8 := x 8; have x9 := x 9; have x10 := x 10; have x11 := x 11; have x12 := x 12
    simp at x0 x1 x2 x3 x4 x5 x6 x7 x8 x9 x10 x11 x12
    clear x hSw
    first
      | (go_simp; done)
      | (go_simp; with_reducible rfl)
  simp only [Act.put, List.setIfInBounds_toArray, List.set_cons_zero, List.set_cons_succ]
  refine takeH 3 (some 29) (v := ?_) rfl (by kernel_rfl) (by kernel_rfl) (by kernel_rfl) (by kernel_rfl) (fun _ _ _ h => h) (Or.inl ⟨by kernel_rfl, ?hy⟩) (by assumption) ?_
  case hy =>
    intro w' hSw
    try dsimp only at hSw
    first
      | (go_simp; done)
      | (go_simp; with_reducible rfl)
  simp only [Act.put, List.setIfInBounds_toArray, List.set_cons_zero, List.set_cons_succ]
  refine takeH 4 (some 30) (v := ?_) rfl (by kernel_rfl) (by kernel_rfl) (by kernel_rfl) (by kernel_rfl) (fun _ _ _ h => h) (Or.inl ⟨by kernel_rfl, ?hy⟩) (by assumption) ?_
  case hy =>
    intro w' hSw
    try dsimp only at hSw
    first
      | (go_simp; done)
      | (go_simp; with_reducible rfl)
  simp only [Act.put, List.setIfInBounds_toArray, List.set_cons_zero, List.set_cons_succ]
  refine takeH 5 (some 31) (v := ?_) rfl (by kernel_rfl) (by kernel_rfl) (by kernel_rfl) (by kernel_rfl) (fun _ _ _ h => h) (Or.inl ⟨by kernel_rfl, ?hy⟩) (by assumption) ?_
  case hy =>
    intro w' hSw
    try dsimp only at hSw
    first
      | (go_simp; done)
      | (go_simp; with_reducible rfl)
  simp only [Act.put, List.setIfInBounds_toArray, List.set_cons_zero, List.set_cons_succ]
  refine wpAnyH_ready (rs := [2]) (by kernel_rfl) (by simp) ?_
  refine AllReadyH.cons rfl (fun K hK => ?_) AllReadyH.nil
  rw [if_pos (by kernel_rfl)]
  go_simp
  refine (asked_any t3 w6.drew (At6.out.up (Below.refl _ _).drew)).mono ?_
  rintro e w7 ⟨rfl, hb⟩
  have hea : askedT t3.d t3.no t3.fe t3.ki t3.bo = askedT k t.no t.fe t.ki t.bo := by
    obtain ⟨a0, a1, a2, a3, a4, a5, a6, a7, a8, a9, a10⟩ := E3.out
    rw [a0, a1, a2, a3, a9]
  rw [hea]
  have Hqo : Hid ((askedT k t.no t.fe t.ki t.bo).ok) := hashWord_ok _ _
  have Hslt := Lib.hid (sign_lt HR0.out (askedT k t.no t.fe t.ki t.bo)); have Hsln := Lib.hid (sign_len HR0.out (askedT k t.no t.fe t.ki t.bo))
  generalize askedT k t.no t.fe t.ki t.bo = qd at *
  have hq := (Below.refl w6.heap.size w6).drew.trans hb
  have hS7 := block_below hS hq hz6
  have HT7 := Lib.hid (HT6.out.below hq); have HZ7 := Lib.hid (HZ6.out.below hq); have HO7 := Lib.hid (own_below HO6.out hq); have Hw7 := Lib.hid (Hw6.out.trans (hq.mono Hw6.out.size))
  refine hK.out _ _ hS7 (fun _ => ?_)
  clear hK K hb hq hS HT6 HZ6 HO6 Hw6 At6 hea
  refine wpAnyH_ready (rs := [6]) (by kernel_rfl) (by simp) ?_
  refine AllReadyH.cons rfl (fun K hK => ?_) AllReadyH.nil
  rw [if_pos (by kernel_rfl)]
  go_simp
  have HSG := Lib.hid (rsig_any qd (HA.out w7 Hw7.out) Hqo.out)
  generalize hsq : r.sign qd = sg at *
  have Hsq := Lib.hid hsq
  clear hsq
  obtain ⟨rn, sb, ge⟩ := sg
  simp only at Hslt Hsln Hsg HSG
  have hge := Hsg.out
  subst hge
  refine HSG.out.mono ?_
  rintro e w8 ⟨M, F', A8, n8, c8, hM1, hM2, rfl, h82, hn8, h83, h84, h85⟩
  have hz7 := Hw7.out.size
  have hT8 : w8.heap[b6]? = some (.cells #[.int .u8 (t3.d.x0 : Int), .int .u8 (t3.d.x1 : Int), .int .u8 (t3.d.x2 : Int), .int .u8 (t3.d.x3 : Int), .int .u8 (t3.d.x4 : Int), .int .u8 (t3.d.x5 : Int), .int .u8 (t3.d.x6 : Int), .int .u8 (t3.d.x7 : Int), .int .i64 t3.no, .int .i64 t3.fe, .int .i64 t3.ki, .slice t3.A t3.n t3.c, .slice t3.A' t3.n' t3.c'] 32 (0, 0)) := (h85.block b6 (block_lt HT7.out) (fun hf => by have := HFl.out _ hf; omega)).trans HT7.out
  have HT8 : Hid (Box t3 w8 b6) := hT8
  have HZ8 : Hid (Box txZ w8 (w.heap.size + 1)) := (h85.block (w.heap.size + 1) (block_lt HZ7.out) (fun hf => by have := HFl.out _ hf; omega)).trans HZ7.out
  have HO8 := Lib.hid (own_keep HO7.out (fun g hg => h85.block g (HO7.out.lt g hg).2 (fun hf => by have h1 := HFl.out _ hf; have h2 := (HO7.out.lt g hg).1; omega)))
  have HOl := Lib.hid (fun g hg => HO7.out.lt g hg)
  have HS8 := Lib.hid h82; have Hn8 := Lib.hid hn8; have HR8 := Lib.hid h83; have HU := Lib.hid h84; have HC8 := Lib.hid ((Chg.of_below (F := F) Hw7.out).trans0 h85)
  have HM2 := Lib.hid hM2; have HM1 := Lib.hid hM1; have Hb67 := Lib.hid (block_lt HT7.out); have Hz7 := Lib.hid hz7
  have hcap8 := own_capT h82
  refine hK.out _ _ hT8 (fun _ => ?_)
  clear hK K hS7 hT8 hM1 hM2 h82 hn8 h83 h84 h85 HT7 HZ7 HO7 Hw7 HSG
  refine takeH 7 (some 25) (v := ?_) rfl (by kernel_rfl) (by kernel_rfl) (by kernel_rfl) (by kernel_rfl) (fun _ _ _ h => h) (Or.inl ⟨by kernel_rfl, ?hy⟩) (by assumption) ?_
  case hy =>
    intro w' hSw
    try dsimp only at hSw
    first
      | (go_simp; done)
      | (go_simp; with_reducible rfl)
  simp only [Act.put, List.setIfInBounds_toArray, List.set_cons_zero, List.set_cons_succ]
  refine takeH 8 (some 33) (v := ?_) rfl (by kernel_rfl) (by kernel_rfl) (by kernel_rfl) (by kernel_rfl) (fun _ _ _ h => h) (Or.inl ⟨by kernel_rfl, ?hy⟩) (by assumption) ?_
  case hy =>
    intro w' hSw
    try dsimp only at hSw
    first
      | (go_simp; done)
      | (go_simp; with_reducible rfl)
  simp only [Act.put, List.setIfInBounds_toArray, List.set_cons_zero, List.set_cons_succ]
  refine takeH 9 (some 34) (v := ?_) rfl (by kernel_rfl) (by kernel_rfl) (by kernel_rfl) (by kernel_rfl) (fun _ _ _ h => h) (Or.inl ⟨by kernel_rfl, ?hy⟩) (by assumption) ?_
  case hy =>
    intro w' hSw
    try dsimp only at hSw
    first
      | (go_simp; done)
      | (go_simp; with_reducible rfl)
  simp only [Act.put, List.setIfInBounds_toArray, List.set_cons_zero, List.set_cons_succ]
  refine takeH 10 (some 8) (v := ?_) rfl (by kernel_rfl) (by kernel_rfl) (by kernel_rfl) (by kernel_rfl) (fun _ _ _ h => h) (Or.inl ⟨by kernel_rfl, ?hy⟩) (by assumption) ?_
  case hy =>
    intro w' hSw
    try dsimp only at hSw
    first
      | (go_simp; done)
      | (go_simp; with_reducible rfl)
  simp only [Act.put, List.setIfInBounds_toArray, List.set_cons_zero, List.set_cons_succ]
  refine takeH 11 (some 9) (v := ?_) rfl (by kernel_rfl) (by kernel_rfl) (by kernel_rfl) (by kernel_rfl) (fun _ _ _ h => h) (Or.inl ⟨by kernel_rfl, ?hy⟩) (by assumption) ?_
  case hy =>
    intro w' hSw
    try dsimp only at hSw
    first
      | (go_simp; done)
      | (go_simp; with_reducible rfl)
  simp only [Act.put, List.setIfInBounds_toArray, List.set_cons_zero, List.set_cons_succ]
  refine wpAnyH_done (by kernel_rfl) ?_ _
  go_wp2_with fail
  refine (clone_any A8 n8 c8 sb w8 (Rd.of_own HS8.out) (by have := Hn8.out; have := Hsln.out; omega)).mono ?_
  rintro e w9 ⟨A9, n9, c9, rfl, ho, hn9, hb⟩
  have HT9 := Lib.hid (HT8.out.below hb); have HZ9 := Lib.hid (HZ8.out.below hb); have HO9 := Lib.hid (own_below HO8.out hb); have HG9 := Lib.hid ho
  have HC9 := Lib.hid (HC8.out.trans0 (Chg.of_below hb)); have HR9 := Lib.hid (HR8.out.below hb)
  have Hn9 := Lib.hid hn9
  have hcap9 := own_capT ho
  clear ho hb hn9 HT8 HZ8 HO8 HC8 HR8 HS8 hna hme hke
  obtain ⟨y0, y1, y2, y3, y4, y5, y6, y7, y8, y9, y10, y11, y12⟩ := HT9.out.all
  have yf := block_free HT9.out
  obtain ⟨hk10, hg10⟩ := setSig HT9.out A9 n9 c9 sb
  go_upto_region 13 with fail
  have hz9 : w.heap.size ≤ w9.heap.size := HC9.out.size
  have HT10 := Lib.hid hk10
  have HZ10 : Hid (Box txZ (w9.setCell ⟨b6, 12, none⟩ (.slice A9 n9 c9)) (w.heap.size + 1)) := (hg10.block (w.heap.size + 1) (block_lt HZ9.out) (by intro e; injection e with e; omega)).trans HZ9.out
  have HO10 := Lib.hid (own_box HO9.out HT9.out hg10); have HG10 := Lib.hid (own_box HG9.out HT9.out hg10)
  have HC10 := Lib.hid (HC9.out.trans (Chg.of_grown hg10 (.inr ⟨(by omega : w.heap.size ≤ b6), block_lt HT9.out⟩)))
  have HR10 := Lib.hid (HR9.out.kept hg10.size (fun z hz => hg10.block z (HR9.out.foot_lt z hz).2 (by intro e; injection e with e; subst e; have h1 := Hb67.out; have h2 := HT1l.out; have h3 := Hz7.out; rcases hz with hz | hz; (· rcases HU.out _ hz with h4 | h4; (· have := HFl.out _ h4; omega); (· omega)); (· omega))))
  generalize w9.setCell ⟨b6, 12, none⟩ (.slice A9 n9 c9) = w10 at *
  clear hk10 hg10 y0 y1 y2 y3 y4 y5 y6 y7 y8 y9 y10 y11 y12 yf HT9 HZ9 HO9 HC9 HR9 HG9 hz9
  obtain ⟨t4, h4⟩ : ∃ t4 : TxV, t4 = t3.withSig A9 n9 c9 sb := ⟨_, rfl⟩
  rw [← h4] at HT10
  have e4 : t4.d = k ∧ t4.no = t.no ∧ t4.fe = t.fe ∧ t4.ki = t.ki ∧ t4.A = A1 ∧ t4.n = t.bo.length ∧ t4.c = c1 ∧ t4.A' = A9 ∧ t4.n' = n9 ∧ t4.c' = c9 ∧ t4.bo = t.bo ∧ t4.si = sb := by
    obtain ⟨a0, a1, a2, a3, a4, a5, a6, a7, a8, a9, a10⟩ := E3.out
    rw [h4]
    exact ⟨a0, a1, a2, a3, a4, a5, a6, rfl, rfl, rfl, a9, rfl⟩
  have E4 := Lib.hid e4
  clear h4 e4
  obtain ⟨y0, y1, y2, y3, y4, y5, y6, y7, y8, y9, y10, y11, y12⟩ := HT10.out.all
  obtain ⟨z0, z1, z2, z3, z4, z5, z6, z7, z8, z9, z10, z11, z12⟩ := HZ10.out.all
  have zf := block_free HZ10.out
  obtain ⟨hk11, hg11⟩ := set13 (t' := t4) HZ10.out
  go_wp2
  have hz10 : w.heap.size ≤ w10.heap.size := HC10.out.size
  have HT11 := Lib.hid hk11
  have HO11 := Lib.hid (own_box HO10.out HZ10.out hg11); have HG11 := Lib.hid (own_box HG10.out HZ10.out hg11)
  have HC11 := Lib.hid (HC10.out.trans (Chg.of_grown hg11 (.inr ⟨(by omega : w.heap.size ≤ w.heap.size + 1), block_lt HZ10.out⟩)))
  have HR11 := Lib.hid (HR10.out.kept hg11.size (fun z hz => hg11.block z (HR10.out.foot_lt z hz).2 (by intro e; injection e with e; subst e; have h1 := Hb67.out; have h2 := HT1l.out; have h3 := Hz7.out; rcases hz with hz | hz; (· rcases HU.out _ hz with h4 | h4; (· have := HFl.out _ h4; omega); (· omega)); (· omega))))
  generalize (((((((((((((w10.setCell ⟨(w.heap.size + 1), 0, none⟩ (.int .u8 (t4.d.x0 : Int))).setCell ⟨(w.heap.size + 1), 1, none⟩ (.int .u8 (t4.d.x1 : Int))).setCell ⟨(w.heap.size + 1), 2, none⟩ (.int .u8 (t4.d.x2 : Int))).setCell ⟨(w.heap.size + 1), 3, none⟩ (.int .u8 (t4.d.x3 : Int))).setCell ⟨(w.heap.size + 1), 4, none⟩ (.int .u8 (t4.d.x4 : Int))).setCell ⟨(w.heap.size + 1), 5, none⟩ (.int .u8 (t4.d.x5 : Int))).setCell ⟨(w.heap.size + 1), 6, none⟩ (.int .u8 (t4.d.x6 : Int))).setCell ⟨(w.heap.size + 1), 7, none⟩ (.int .u8 (t4.d.x7 : Int))).setCell ⟨(w.heap.size + 1), 8, none⟩ (.int .i64 t4.no)).setCell ⟨(w.heap.size + 1), 9, none⟩ (.int .i64 t4.fe)).setCell ⟨(w.heap.size + 1), 10, none⟩ (.int .i64 t4.ki)).setCell ⟨(w.heap.size + 1), 11, none⟩ (.slice t4.A t4.n t4.c)).setCell ⟨(w.heap.size + 1), 12, none⟩ (.slice t4.A' t4.n' t4.c')) = w11 at *
  clear hk11 hg11 y0 y1 y2 y3 y4 y5 y6 y7 y8 y9 y10 y11 y12 z0 z1 z2 z3 z4 z5 z6 z7 z8 z9 z10 z11 z12 zf
  obtain ⟨r0, r1, r2, r3, r4, r5, r6, r7, r8, r9, r10, r11, r12⟩ := HT11.out.all
  refine bodyPost_ret (v := .tuple #[.agg #[.int .u8 (t4.d.x0 : Int), .int .u8 (t4.d.x1 : Int), .int .u8 (t4.d.x2 : Int), .int .u8 (t4.d.x3 : Int), .int .u8 (t4.d.x4 : Int), .int .u8 (t4.d.x5 : Int), .int .u8 (t4.d.x6 : Int), .int .u8 (t4.d.x7 : Int), .int .i64 t4.no, .int .i64 t4.fe, .int .i64 t4.ki, .slice t4.A t4.n t4.c, .slice t4.A' t4.n' t4.c'], .int .i64 0]) (by simp [results, Tryz.results5, go_sem, r0, r1, r2, r3, r4, r5, r6, r7, r8, r9, r10, r11, r12]) rfl ?_
  obtain ⟨a0, a1, a2, a3, a4, a5, a6, a7, a8, a9, a10, a11⟩ := E4.out
  have hM1 := HM1.out; have hM2 := HM2.out; have hz7 := Hz7.out; have hb67 := Hb67.out
  refine ⟨t4, F', rfl, a0, a1, a2, a3, a10, (by rw [Hsq.out]; exact a11), ⟨by rw [a0]; exact Hk.out, by rw [a4, a5, a10]; exact Rd.of_own HO11.out, by rw [a7, a8, a11]; exact Rd.of_own HG11.out, by rw [a5, a6]; exact hcap, by rw [a8, a9]; exact hcap9, by rw [a10]; exact Hb1.out, by rw [a11]; exact Hslt.out, by rw [a5]; have := Hl1.out; have := Hm1.out; omega, by rw [a8]; have := Hn9.out; have := Hsln.out; omega⟩, ⟨⟨by rw [a4, a5, a6, a10]; exact own_down0 HO11.out, ?_⟩, by rw [a7, a8, a9, a11]; exact own_down0 HG11.out, ?_⟩, (by rw [Hsq.out]; exact HR11.out), HC11.out, fun z hz => (HU.out z hz).imp id (fun h => by omega)⟩
  · rw [a4, a5, a6]
    intro g hg hf
    have h1 := HOl.out g hg
    rcases HU.out g hf with h4 | h4
    · have := HFl.out g h4; omega
    · omega
  · rw [a7, a8, a9]
    intro g hg hf
    have h1 := (HG11.out.lt g hg).1
    rcases HU.out g hf with h4 | h4
    · have := HFl.out g h4; omega
    · omega
end Go.Proofs.YthjpaclcoipocaaGreat
namespace Go.Proofs.YthjpaclcoipocaaGreat
open Go.RowKit Go.Lib


theorem nil_verR (w : World) : (nilAhead (Tryz.prog.types.size + Made.depth) 40 (.agg #[]) "Verify").run Tryz.prog w = .ok (some false) w := by kernel_rfl
theorem meth_verR (w : World) : (method (Tryz.prog.types.size + Made.depth) 40 (.agg #[]) "Verify").run Tryz.prog w = .ok (81, .agg #[]) w := by kernel_rfl
def verTR (t : TxV) : Int := if checkT t.no t.fe t.ki t.bo t.si = 0 then (if verifyN t.d (askedT t.d t.no t.fe t.ki t.bo) t.si then 0 else 16) else checkT t.no t.fe t.ki t.bo t.si
set_option maxRecDepth 100000 in
set_option maxHeartbeats 4000000 in
theorem txverifyR_any (t : TxV) (w : World) (h : t.At w) : Calls Tryz.prog 8 #[.agg #[.int .u8 (t.d.x0 : Int), .int .u8 (t.d.x1 : Int), .int .u8 (t.d.x2 : Int), .int .u8 (t.d.x3 : Int), .int .u8 (t.d.x4 : Int), .int .u8 (t.d.x5 : Int), .int .u8 (t.d.x6 : Int), .int .u8 (t.d.x7 : Int), .int .i64 t.no, .int .i64 t.fe, .int .i64 t.ki, .slice t.A t.n t.c, .slice t.A' t.n' t.c'], .iface 40 (.agg #[])] w fun e w' => e = .returned (.int .i64 (verTR t)) ∧ Below w.heap.size w w' := by
  have hna := nil_verR
  have hme := meth_verR
  rw [types_manyT] at hna hme
  have hb0 := h_one w (.cells #[.int .u8 (t.d.x0 : Int), .int .u8 (t.d.x1 : Int), .int .u8 (t.d.x2 : Int), .int .u8 (t.d.x3 : Int), .int .u8 (t.d.x4 : Int), .int .u8 (t.d.x5 : Int), .int .u8 (t.d.x6 : Int), .int .u8 (t.d.x7 : Int), .int .i64 t.no, .int .i64 t.fe, .int .i64 t.ki, .slice t.A t.n t.c, .slice t.A' t.n' t.c'] 32)
  have H0 := Lib.hid (h.up hb0)
  have HT : Hid (Box t (w.alloc (.cells #[.int .u8 (t.d.x0 : Int), .int .u8 (t.d.x1 : Int), .int .u8 (t.d.x2 : Int), .int .u8 (t.d.x3 : Int), .int .u8 (t.d.x4 : Int), .int .u8 (t.d.x5 : Int), .int .u8 (t.d.x6 : Int), .int .u8 (t.d.x7 : Int), .int .i64 t.no, .int .i64 t.fe, .int .i64 t.ki, .slice t.A t.n t.c, .slice t.A' t.n' t.c'] 32)) w.heap.size) := heap_alloc_new w (.cells #[.int .u8 (t.d.x0 : Int), .int .u8 (t.d.x1 : Int), .int .u8 (t.d.x2 : Int), .int .u8 (t.d.x3 : Int), .int .u8 (t.d.x4 : Int), .int .u8 (t.d.x5 : Int), .int .u8 (t.d.x6 : Int), .int .u8 (t.d.x7 : Int), .int .i64 t.no, .int .i64 t.fe, .int .i64 t.ki, .slice t.A t.n t.c, .slice t.A' t.n' t.c'] 32)
  have Hb0 := Lib.hid hb0
  have Hz0 : Hid ((w.alloc (.cells #[.int .u8 (t.d.x0 : Int), .int .u8 (t.d.x1 : Int), .int .u8 (t.d.x2 : Int), .int .u8 (t.d.x3 : Int), .int .u8 (t.d.x4 : Int), .int .u8 (t.d.x5 : Int), .int .u8 (t.d.x6 : Int), .int .u8 (t.d.x7 : Int), .int .i64 t.no, .int .i64 t.fe, .int .i64 t.ki, .slice t.A t.n t.c, .slice t.A' t.n' t.c'] 32)).heap.size = w.heap.size + 1) := Lib.hid (by simp)
  have Hb2 := Lib.hid h.b2; have Hd := Lib.hid h.ok; have Hm2 := Lib.hid h.m2; have Hln := Lib.hid h.len2
  clear h hb0
  obtain ⟨y0, y1, y2, y3, y4, y5, y6, y7, y8, y9, y10, y11, y12⟩ := HT.out.all
  have Hv : Hid (verTR t = if checkT t.no t.fe t.ki t.bo t.si = 0 then (if verifyN t.d (askedT t.d t.no t.fe t.ki t.bo) t.si then 0 else 16) else checkT t.no t.fe t.ki t.bo t.si) := rfl
  go_enter Tryz.func8, Tryz.ntmps8
  go_wp2_with fail
  refine (tcheck_any t _ H0.out).mono ?_
  rintro e w1 ⟨rfl, hb1⟩
  have HT1 : Hid (Box t w1 w.heap.size) := Lib.hid (HT.out.below hb1)
  have Hb1 := Lib.hid (Hb0.out.trans (hb1.mono Hb0.out.size)); have H1 := Lib.hid (H0.out.up hb1)
  clear hb1 y0 y1 y2 y3 y4 y5 y6 y7 y8 y9 y10 y11 y12 HT Hb0 H0
  generalize checkT t.no t.fe t.ki t.bo t.si = ck at *
  by_cases hck : ck = 0
  · have e1 : (ck != 0) = false := by simp [hck]
    rw [if_pos hck] at Hv
    clear hck
    go_wp2_with fail
    have hz := block_lt HT1.out
    have hS := HT1.out
    have hS' : w1.heap[w.heap.size]? = some (.cells #[.int .u8 (t.d.x0 : Int), .int .u8 (t.d.x1 : Int), .int .u8 (t.d.x2 : Int), .int .u8 (t.d.x3 : Int), .int .u8 (t.d.x4 : Int), .int .u8 (t.d.x5 : Int), .int .u8 (t.d.x6 : Int), .int .u8 (t.d.x7 : Int), .int .i64 t.no, .int .i64 t.fe, .int .i64 t.ki, .slice t.A t.n t.c, .slice t.A' t.n' t.c'] 32 (0, 0)) := hS
    refine wp_region_held_drew (S := fun w' => w'.heap[w.heap.size]? = some (.cells #[.int .u8 (t.d.x0 : Int), .int .u8 (t.d.x1 : Int), .int .u8 (t.d.x2 : Int), .int .u8 (t.d.x3 : Int), .int .u8 (t.d.x4 : Int), .int .u8 (t.d.x5 : Int), .int .u8 (t.d.x6 : Int), .int .u8 (t.d.x7 : Int), .int .i64 t.no, .int .i64 t.fe, .int .i64 t.ki, .slice t.A t.n t.c, .slice t.A' t.n' t.c'] 32 (0, 0))) (by kernel_rfl) hS' (fun hHeld => ?_)
    refine takeH 0 (some 13) (v := ?_) rfl (by kernel_rfl) (by kernel_rfl) (by kernel_rfl) (by kernel_rfl) (fun _ _ _ h => h) (Or.inl ⟨by kernel_rfl, ?hy⟩) (by assumption) ?_
    case hy =>
      intro w' hSw
      try dsimp only at hSw
      first
        | (go_simp; done)
        | (go_simp; with_reducible rfl)
    simp only [Act.put, List.setIfInBounds_toArray, List.set_cons_zero, List.set_cons_succ]
    refine takeH 1 (some 14) (v := ?_) rfl (by kernel_rfl) (by kernel_rfl) (by kernel_rfl) (by kernel_rfl) (fun _ _ _ h => h) (Or.inl ⟨by kernel_rfl, ?hy⟩) (by assumption) ?_
    case hy =>
      intro w' hSw
      try dsimp only at hSw
      first
        | (go_simp; done)
        | (go_simp; with_reducible rfl)
    simp only [Act.put, List.setIfInBounds_toArray, List.set_cons_zero, List.set_cons_succ]
    refine takeH 2 (some 15) (v := ?_) rfl (by kernel_rfl) (by kernel_rfl) (by kernel_rfl) (by kernel_rfl) (fun _ _ _ h => h) (Or.inl ⟨by kernel_rfl, ?hy⟩) (by assumption) ?_
    case hy =>
      intro w' hSw
      try dsimp only at hSw
      have x := block_cell hSw
      have x0 := x 0; have x1 := x 1; have x2 := x 2; have x3 := x 3; have x4 := x 4; have x5 := x 5; have x6 := x 6; have x7 := x 7; have x8 := x 8; have x9 := x 9; have x10 := x 10; have x11 := x 11; have x12 := x 12
      simp at x0 x1 x2 x3 x4 x5 x6 x7 x8 x9 x10 x11 x12
      clear x hSw
      first
        | (go_simp; done)
        | (go_simp; with_reducible rfl)
    simp only [Act.put, List.setIfInBounds_toArray, List.set_cons_zero, List.set_cons_succ]
    refine takeH 3 (some 16) (v := ?_) rfl (by kernel_rfl) (by kernel_rfl) (by kernel_rfl) (by kernel_rfl) (fun _ _ _ h => h) (Or.inl ⟨by kernel_rfl, ?hy⟩) (by assumption) ?_
    case hy =>
      intro w' hSw
      try dsimp only at hSw
      have x := block_cell hSw
      have x0 := x 0; have x1 := x 1; have x2 := x 2; have x3 := x 3; have x4 := x 4; have x5 := x 5; have x6 := x 6; have x7 := x 7; have x8 := x 8; have x9 := x 9; have x10 := x 10; have x11 := x 11; have x12 := x 12
      simp at x0 x1 x2 x3 x4 x5 x6 x7 x8 x9 x10 x11 x12
      clear x hSw
      first
        | (go_simp; done)
        | (go_simp; with_reducible rfl)
    simp only [Act.put, List.setIfInBounds_toArray, List.set_cons_zero, List.set_cons_succ]
    refine takeH 5 (some 18) (v := ?_) rfl (by kernel_rfl) (by kernel_rfl) (by kernel_rfl) (by kernel_rfl) (fun _ _ _ h => h) (Or.inl ⟨by kernel_rfl, ?hy⟩) (by assumption) ?_
    case hy =>
      intro w' hSw
      try dsimp only at hSw
      first
        | (go_simp; done)
        | (go_simp; with_reducible rfl)
    simp only [Act.put, List.setIfInBounds_toArray, List.set_cons_zero, List.set_cons_succ]
    refine takeH 6 (some 19) (v := ?_) rfl (by kernel_rfl) (by kernel_rfl) (by kernel_rfl) (by kernel_rfl) (fun _ _ _ h => h) (Or.inl ⟨by kernel_rfl, ?hy⟩) (by assumption) ?_
    case hy =>
      intro w' hSw
      try dsimp only at hSw
      have x := block_cell hSw
      have x0 := x 0; have x1 := x 1; have x2 := x 2; have x3 := x 3; have x4 := x 4; have x5 := x 5; have x6 := x 6; have x7 := x 7; have x8 := x 8; have x9 := x 9; have x10 := x 10; have x11 := x 11; have x12 := x 12
      simp at x0 x1 x2 x3 x4 x5 x6 x7 x8 x9 x10 x11 x12
      clear x hSw
      first
        | (go_simp; done)
        | (go_simp; with_reducible rfl)
    simp only [Act.put, List.setIfInBounds_toArray, List.set_cons_zero, List.set_cons_succ]
    refine takeH 8 (some 21) (v := ?_) rfl (by kernel_rfl) (by kernel_rfl) (by kernel_rfl) (by kernel_rfl) (fun _ _ _ h => h) (Or.inl ⟨by kernel_rfl, ?hy⟩) (by assumption) ?_
    case hy =>
      intro w' hSw
      try dsimp only at hSw
      first
        | (go_simp; done)
        | (go_simp; with_reducible rfl)
    simp only [Act.put, List.setIfInBounds_toArray, List.set_cons_zero, List.set_cons_succ]
    refine takeH 9 (some 22) (v := ?_) rfl (by kernel_rfl) (by kernel_rfl) (by kernel_rfl) (by kernel_rfl) (fun _ _ _ h => h) (Or.inl ⟨by kernel_rfl, ?hy⟩) (by assumption) ?_
    case hy =>
      intro w' hSw
      try dsimp only at hSw
      first
        | (go_simp; done)
        | (go_simp; with_reducible rfl)
    simp only [Act.put, List.setIfInBounds_toArray, List.set_cons_zero, List.set_cons_succ]
    refine takeH 10 (some 23) (v := ?_) rfl (by kernel_rfl) (by kernel_rfl) (by kernel_rfl) (by kernel_rfl) (fun _ _ _ h => h) (Or.inl ⟨by kernel_rfl, ?hy⟩) (by assumption) ?_
    case hy =>
      intro w' hSw
      try dsimp only at hSw
      first
        | (go_simp; done)
        | (go_simp; with_reducible rfl)
    simp only [Act.put, List.setIfInBounds_toArray, List.set_cons_zero, List.set_cons_succ]
    refine wpAnyH_ready (rs := [4]) (by kernel_rfl) (by simp) ?_
    refine AllReadyH.cons rfl (fun K hK => ?_) AllReadyH.nil
    rw [if_pos (by kernel_rfl)]
    go_simp
    refine (asked_any t w1.drew (H1.out.up (Below.refl _ _).drew)).mono ?_
    rintro e w2 ⟨rfl, hb⟩
    have Hqo : Hid ((askedT t.d t.no t.fe t.ki t.bo).ok) := hashWord_ok _ _
    generalize askedT t.d t.no t.fe t.ki t.bo = qd at *
    have hq := (Below.refl w1.heap.size w1).drew.trans hb
    have hS2 := block_below hS' hq hz
    have Hb2' := Lib.hid (Hb1.out.trans (hq.mono Hb1.out.size)); have H2 := Lib.hid (H1.out.up hq)
    refine hK.out _ _ hS2 (fun _ => ?_)
    clear hK K hb hq
    refine wpAnyH_ready (rs := [7]) (by kernel_rfl) (by simp) ?_
    refine AllReadyH.cons rfl (fun K hK => ?_) AllReadyH.nil
    rw [if_pos (by kernel_rfl)]
    go_simp
    refine (clone_any t.A' t.n' t.c' t.si w2 H2.out.r2 (by have := Hm2.out; omega)).mono ?_
    rintro e w3 ⟨A3, n3, c3, rfl, ho, hn3, hb⟩
    have hS3 := block_below hS2 hb (block_lt hS2)
    have Hb3 := Lib.hid (Hb2'.out.trans (hb.mono Hb2'.out.size)); have Hr3 : Hid (Rd w3 w3.heap.size 1 A3 n3 (bv t.si)) := Rd.of_own ho
    have Hc3 := Lib.hid (own_capT ho); have Hn3 : Hid (n3 ≤ 400000000) := Lib.hid (by have := Hm2.out; have := Hln.out; omega)
    refine hK.out _ _ hS3 (fun _ => ?_)
    clear hK K hb ho hn3
    refine wpAnyH_ready (rs := [11]) (by kernel_rfl) (by simp) ?_
    refine AllReadyH.cons rfl (fun K hK => ?_) AllReadyH.nil
    rw [if_pos (by kernel_rfl)]
    go_simp
    refine (rver_any t.d qd A3 n3 c3 t.si w3 Hqo.out Hr3.out Hc3.out Hn3.out Hb2.out).mono ?_
    rintro e w4 ⟨rfl, hb⟩
    have hS4 := block_below hS3 hb (block_lt hS3)
    have Hb4 := Lib.hid (Hb3.out.trans (hb.mono Hb3.out.size))
    refine hK.out _ _ hS4 (fun _ => ?_)
    clear hK K hb
    generalize verifyN t.d qd t.si = vb at *
    refine takeH 12 (some 25) (v := ?_) rfl (by kernel_rfl) (by kernel_rfl) (by kernel_rfl) (by kernel_rfl) (fun _ _ _ h => h) (Or.inl ⟨by kernel_rfl, ?hy⟩) (by assumption) ?_
    case hy =>
      intro w' hSw
      try dsimp only at hSw
      first
        | (go_simp; done)
        | (go_simp; with_reducible rfl)
    simp only [Act.put, List.setIfInBounds_toArray, List.set_cons_zero, List.set_cons_succ]
    refine wpAnyH_done (by kernel_rfl) ?_ _
    cases vb with
    | true =>
      go_wp2
      go_ret
      exact ⟨by rw [Hv.out]; rfl, Hb4.out⟩
    | false =>
      go_wp2
      go_ret
      exact ⟨by rw [Hv.out]; rfl, Hb4.out⟩
  · have e1 : (ck != 0) = true := by simpa using hck
    rw [if_neg hck] at Hv
    clear hck
    go_wp2
    go_ret
    exact ⟨by rw [Hv.out]; rfl, Hb1.out⟩
end Go.Proofs.YthjpaclcoipocaaGreat
