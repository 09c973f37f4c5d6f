/- The walk of the reference's Decode of a purse. Condition: a bound on how many bytes. -/
import Derived.Test.YtjiecnoplnaahaaJoinC
import Derived.Test.YtjiecnoplnaahaaJoinD
import Derived.Test.YtjiecnoplnaahaaPuDc
namespace Go.Proofs.Ytjiecnoplnaahaa
open Go.RowKit Go.Lib



def GoodRS (l : List Nat) (s : RS) : Prop := s.l = l ∧ s.at_ ≤ l.length
theorem good_num {l : List Nat} {s : RS} (h : GoodRS l s) (m : Nat) : GoodRS l (numRS s m).1 := by
  obtain ⟨rfl, h2⟩ := h
  unfold numRS
  split
  · exact ⟨rfl, h2⟩
  · split
    · exact ⟨rfl, h2⟩
    · have := take1_len (s.l.drop s.at_) m
      rw [List.length_drop] at this
      exact ⟨rfl, by show s.at_ + _ ≤ _; omega⟩
theorem good_bytes {l : List Nat} {s : RS} (h : GoodRS l s) (m : Nat) : GoodRS l (bytesRS s m).1 := by
  obtain ⟨rfl, h2⟩ := h
  unfold bytesRS
  split
  · exact ⟨rfl, h2⟩
  · split
    · exact ⟨rfl, h2⟩
    · have := takeB_len (s.l.drop s.at_) m
      rw [List.length_drop] at this
      exact ⟨rfl, by show s.at_ + _ ≤ _; omega⟩
theorem good_name {l : List Nat} {s : RS} (h : GoodRS l s) : GoodRS l (nameRS s).1 := by
  unfold nameRS
  split
  · exact good_bytes h 8
  · split
    · exact h
    · exact good_bytes h 8
theorem good_hd {l : List Nat} {s : RS} (h : GoodRS l s) : GoodRS l (hdRS s).1 := good_num (good_num (good_num (good_name h) _) _) _
theorem good_hs {l : List Nat} {s : RS} (h : GoodRS l s) : ∀ k, GoodRS l (hRS s k).1
  | 0 => h
  | k + 1 => by
    have := good_hs h k
    unfold hRS
    split
    · exact this
    · exact good_hd this
theorem good0 (l : List Nat) : GoodRS l ⟨l, 0, 0⟩ := ⟨rfl, Nat.zero_le _⟩
theorem good1 (l : List Nat) : GoodRS l (p1 l) := good_name (good0 l)
theorem good2 (l : List Nat) : GoodRS l (p2 l) := good_num (good1 l) _
theorem good3 (l : List Nat) : GoodRS l (p3 l) := good_num (good2 l) _
theorem good4 (l : List Nat) : GoodRS l (p4 l) := good_num (good3 l) _
theorem good5 (l : List Nat) : GoodRS l (p5 l) := good_num (good4 l) _
theorem set8_12 {w : World} {g : Nat} {T : TypeId} {x0 x1 x2 x3 x4 x5 x6 x7 x8 x9 x10 x11 : Value} (h : w.heap[g]? = some (.cells #[x0, x1, x2, x3, x4, x5, x6, x7, x8, x9, x10, x11] T (0, 0))) (v0 v1 v2 v3 v4 v5 v6 v7 : Value) :
    ((((((((w.setCell ⟨g, 0, none⟩ v0).setCell ⟨g, 1, none⟩ v1).setCell ⟨g, 2, none⟩ v2).setCell ⟨g, 3, none⟩ v3).setCell ⟨g, 4, none⟩ v4).setCell ⟨g, 5, none⟩ v5).setCell ⟨g, 6, none⟩ v6).setCell ⟨g, 7, none⟩ v7).heap[g]? = some (.cells #[v0, v1, v2, v3, v4, v5, v6, v7, x8, x9, x10, x11] T (0, 0)) := by
  have h1 := Joins.block_setCell (i := 0) h v0
  have h2 := Joins.block_setCell (i := 1) h1 v1
  have h3 := Joins.block_setCell (i := 2) h2 v2
  have h4 := Joins.block_setCell (i := 3) h3 v3
  have h5 := Joins.block_setCell (i := 4) h4 v4
  have h6 := Joins.block_setCell (i := 5) h5 v5
  have h7 := Joins.block_setCell (i := 6) h6 v6
  have h8 := Joins.block_setCell (i := 7) h7 v7
  simpa using h8
theorem setn0 {w : World} {g : Nat} {T : TypeId} {x0 x1 x2 x3 : Value} (h : w.heap[g]? = some (.cells #[x0, x1, x2, x3] T (0, 0))) (v : Value) : (w.setCell ⟨g, 0, none⟩ v).heap[g]? = some (.cells #[v, x1, x2, x3] T (0, 0)) := by
  simpa using Joins.block_setCell (i := 0) h v
theorem setn1 {w : World} {g : Nat} {T : TypeId} {x0 x1 x2 x3 : Value} (h : w.heap[g]? = some (.cells #[x0, x1, x2, x3] T (0, 0))) (v : Value) : (w.setCell ⟨g, 1, none⟩ v).heap[g]? = some (.cells #[x0, v, x2, x3] T (0, 0)) := by
  simpa using Joins.block_setCell (i := 1) h v
theorem setn2 {w : World} {g : Nat} {T : TypeId} {x0 x1 x2 x3 : Value} (h : w.heap[g]? = some (.cells #[x0, x1, x2, x3] T (0, 0))) (v : Value) : (w.setCell ⟨g, 2, none⟩ v).heap[g]? = some (.cells #[x0, x1, v, x3] T (0, 0)) := by
  simpa using Joins.block_setCell (i := 2) h v
theorem setn3 {w : World} {g : Nat} {T : TypeId} {x0 x1 x2 x3 : Value} (h : w.heap[g]? = some (.cells #[x0, x1, x2, x3] T (0, 0))) (v : Value) : (w.setCell ⟨g, 3, none⟩ v).heap[g]? = some (.cells #[x0, x1, x2, v] T (0, 0)) := by
  simpa using Joins.block_setCell (i := 3) h v
theorem setm0 {w : World} {g : Nat} {T : TypeId} {x0 x1 x2 : Value} (h : w.heap[g]? = some (.cells #[x0, x1, x2] T (0, 0))) (v : Value) : (w.setCell ⟨g, 0, none⟩ v).heap[g]? = some (.cells #[v, x1, x2] T (0, 0)) := by
  simpa using Joins.block_setCell (i := 0) h v
theorem setm1 {w : World} {g : Nat} {T : TypeId} {x0 x1 x2 : Value} (h : w.heap[g]? = some (.cells #[x0, x1, x2] T (0, 0))) (v : Value) : (w.setCell ⟨g, 1, none⟩ v).heap[g]? = some (.cells #[x0, v, x2] T (0, 0)) := by
  simpa using Joins.block_setCell (i := 1) h v
theorem setm2 {w : World} {g : Nat} {T : TypeId} {x0 x1 x2 : Value} (h : w.heap[g]? = some (.cells #[x0, x1, x2] T (0, 0))) (v : Value) : (w.setCell ⟨g, 2, none⟩ v).heap[g]? = some (.cells #[x0, x1, v] T (0, 0)) := by
  simpa using Joins.block_setCell (i := 2) h v
theorem set8_11 {w : World} {g : Nat} {T : TypeId} {x0 x1 x2 x3 x4 x5 x6 x7 x8 x9 x10 : Value} (h : w.heap[g]? = some (.cells #[x0, x1, x2, x3, x4, x5, x6, x7, x8, x9, x10] T (0, 0))) (v0 v1 v2 v3 v4 v5 v6 v7 : Value) :
    ((((((((w.setCell ⟨g, 0, none⟩ v0).setCell ⟨g, 1, none⟩ v1).setCell ⟨g, 2, none⟩ v2).setCell ⟨g, 3, none⟩ v3).setCell ⟨g, 4, none⟩ v4).setCell ⟨g, 5, none⟩ v5).setCell ⟨g, 6, none⟩ v6).setCell ⟨g, 7, none⟩ v7).heap[g]? = some (.cells #[v0, v1, v2, v3, v4, v5, v6, v7, x8, x9, x10] T (0, 0)) := by
  have h1 := Joins.block_setCell (i := 0) h v0
  have h2 := Joins.block_setCell (i := 1) h1 v1
  have h3 := Joins.block_setCell (i := 2) h2 v2
  have h4 := Joins.block_setCell (i := 3) h3 v3
  have h5 := Joins.block_setCell (i := 4) h4 v4
  have h6 := Joins.block_setCell (i := 5) h5 v5
  have h7 := Joins.block_setCell (i := 6) h6 v6
  have h8 := Joins.block_setCell (i := 7) h7 v7
  simpa using h8
theorem set3_11 {w : World} {g : Nat} {T : TypeId} {x0 x1 x2 x3 x4 x5 x6 x7 x8 x9 x10 : Value} (h : w.heap[g]? = some (.cells #[x0, x1, x2, x3, x4, x5, x6, x7, x8, x9, x10] T (0, 0))) (a b e : Value) :
    (((w.setCell ⟨g, 8, none⟩ a).setCell ⟨g, 9, none⟩ b).setCell ⟨g, 10, none⟩ e).heap[g]? = some (.cells #[x0, x1, x2, x3, x4, x5, x6, x7, a, b, e] T (0, 0)) ∧ w.grownBy (((w.setCell ⟨g, 8, none⟩ a).setCell ⟨g, 9, none⟩ b).setCell ⟨g, 10, none⟩ e) (some g) := by
  have h1 := Joins.block_setCell (i := 8) h a
  have h2 := Joins.block_setCell (i := 9) h1 b
  have h3 := Joins.block_setCell (i := 10) h2 e
  exact ⟨by simpa using h3, ((grown_set1 w g 8 a).trans (grown_set1 _ g 9 b)).trans (grown_set1 _ g 10 e)⟩
theorem set3_12 {w : World} {g : Nat} {T : TypeId} {x0 x1 x2 x3 x4 x5 x6 x7 x8 x9 x10 x11 : Value} (h : w.heap[g]? = some (.cells #[x0, x1, x2, x3, x4, x5, x6, x7, x8, x9, x10, x11] T (0, 0))) (a b e : Value) :
    (((w.setCell ⟨g, 8, none⟩ a).setCell ⟨g, 9, none⟩ b).setCell ⟨g, 10, none⟩ e).heap[g]? = some (.cells #[x0, x1, x2, x3, x4, x5, x6, x7, a, b, e, x11] T (0, 0)) ∧ w.grownBy (((w.setCell ⟨g, 8, none⟩ a).setCell ⟨g, 9, none⟩ b).setCell ⟨g, 10, none⟩ e) (some g) := by
  have h1 := Joins.block_setCell (i := 8) h a
  have h2 := Joins.block_setCell (i := 9) h1 b
  have h3 := Joins.block_setCell (i := 10) h2 e
  exact ⟨by simpa using h3, ((grown_set1 w g 8 a).trans (grown_set1 _ g 9 b)).trans (grown_set1 _ g 10 e)⟩
theorem set1 {w : World} {g i : Nat} {T : TypeId} {cs : Array Value} (h : w.heap[g]? = some (.cells cs T (0, 0))) (v : Value) :
    (w.setCell ⟨g, i, none⟩ v).heap[g]? = some (.cells (cs.setIfInBounds i v) T (0, 0)) ∧ w.grownBy (w.setCell ⟨g, i, none⟩ v) (some g) := ⟨Joins.block_setCell h v, grown_set1 w g i v⟩
set_option maxRecDepth 100000 in
set_option maxHeartbeats 4000000 in
theorem rdec_any (A : Option Addr) (n c : Nat) (l : List Nat) (w : World) (hr : Rd w w.heap.size 1 A n (bv l)) (hnc : n ≤ c) (hn : n ≤ 1000000000) (hb : ∀ x ∈ l, x < 256) :
    Calls Try.prog 35 #[.slice A n c] w (GivesChR (decPu l) w) := by
  have hll : l.length = n := by have := hr.1; rw [bv_len] at this; omega
  have Hr := Lib.hid hr; have Hb := Lib.hid hb; have Hll := Lib.hid hll
  clear hr hb hll
  go_enter Try.func35, Try.ntmps35
  go_upto_region 4 with fail
  have HX0 := Lib.hid (show ((((w.alloc (.cells #[.int .u8 0, .int .u8 0, .int .u8 0, .int .u8 0, .int .u8 0, .int .u8 0, .int .u8 0, .int .u8 0, .int .i64 0, .int .i64 0, .int .i64 0, .slice none 0 0] 26)).alloc (.cells #[.slice A n c, .int .i64 0, .int .i64 0] 113)).alloc (.cells #[.int .u8 0, .int .u8 0, .int .u8 0, .int .u8 0, .int .u8 0, .int .u8 0, .int .u8 0, .int .u8 0, .int .i64 0, .int .i64 0, .int .i64 0, .slice none 0 0] 26)).alloc (.cells #[.int .u64 0, .int .u64 0, .int .u64 0, .int .u64 0] 114)).heap[w.heap.size]? = some (.cells #[.int .u8 0, .int .u8 0, .int .u8 0, .int .u8 0, .int .u8 0, .int .u8 0, .int .u8 0, .int .u8 0, .int .i64 0, .int .i64 0, .int .i64 0, .slice none 0 0] 26 (0, 0)) from block_alloc (block_alloc (block_alloc (heap_alloc_new w _) _) _) _)
  have HR0 := Lib.hid (show ((((w.alloc (.cells #[.int .u8 0, .int .u8 0, .int .u8 0, .int .u8 0, .int .u8 0, .int .u8 0, .int .u8 0, .int .u8 0, .int .i64 0, .int .i64 0, .int .i64 0, .slice none 0 0] 26)).alloc (.cells #[.slice A n c, .int .i64 0, .int .i64 0] 113)).alloc (.cells #[.int .u8 0, .int .u8 0, .int .u8 0, .int .u8 0, .int .u8 0, .int .u8 0, .int .u8 0, .int .u8 0, .int .i64 0, .int .i64 0, .int .i64 0, .slice none 0 0] 26)).alloc (.cells #[.int .u64 0, .int .u64 0, .int .u64 0, .int .u64 0] 114)).heap[w.heap.size + 1]? = some (.cells #[.slice A n c, .int .i64 ((⟨l, 0, 0⟩ : RS).at_ : Int), .int .i64 (⟨l, 0, 0⟩ : RS).err] 113 (0, 0)) from block_alloc (block_alloc (h_at (by simp)) _) _)
  have HP0 := Lib.hid (show ((((w.alloc (.cells #[.int .u8 0, .int .u8 0, .int .u8 0, .int .u8 0, .int .u8 0, .int .u8 0, .int .u8 0, .int .u8 0, .int .i64 0, .int .i64 0, .int .i64 0, .slice none 0 0] 26)).alloc (.cells #[.slice A n c, .int .i64 0, .int .i64 0] 113)).alloc (.cells #[.int .u8 0, .int .u8 0, .int .u8 0, .int .u8 0, .int .u8 0, .int .u8 0, .int .u8 0, .int .u8 0, .int .i64 0, .int .i64 0, .int .i64 0, .slice none 0 0] 26)).alloc (.cells #[.int .u64 0, .int .u64 0, .int .u64 0, .int .u64 0] 114)).heap[w.heap.size + 1 + 1]? = some (.cells #[.int .u8 0, .int .u8 0, .int .u8 0, .int .u8 0, .int .u8 0, .int .u8 0, .int .u8 0, .int .u8 0, .int .i64 0, .int .i64 0, .int .i64 0, .slice none 0 0] 26 (0, 0)) from block_alloc (h_at (by simp)) _)
  have HN0 := Lib.hid (show ((((w.alloc (.cells #[.int .u8 0, .int .u8 0, .int .u8 0, .int .u8 0, .int .u8 0, .int .u8 0, .int .u8 0, .int .u8 0, .int .i64 0, .int .i64 0, .int .i64 0, .slice none 0 0] 26)).alloc (.cells #[.slice A n c, .int .i64 0, .int .i64 0] 113)).alloc (.cells #[.int .u8 0, .int .u8 0, .int .u8 0, .int .u8 0, .int .u8 0, .int .u8 0, .int .u8 0, .int .u8 0, .int .i64 0, .int .i64 0, .int .i64 0, .slice none 0 0] 26)).alloc (.cells #[.int .u64 0, .int .u64 0, .int .u64 0, .int .u64 0] 114)).heap[w.heap.size + 1 + 1 + 1]? = some (.cells #[.int .u64 0, .int .u64 0, .int .u64 0, .int .u64 0] 114 (0, 0)) from h_at (by simp))
  have Hw0 := Lib.hid (show Below w.heap.size w ((((w.alloc (.cells #[.int .u8 0, .int .u8 0, .int .u8 0, .int .u8 0, .int .u8 0, .int .u8 0, .int .u8 0, .int .u8 0, .int .i64 0, .int .i64 0, .int .i64 0, .slice none 0 0] 26)).alloc (.cells #[.slice A n c, .int .i64 0, .int .i64 0] 113)).alloc (.cells #[.int .u8 0, .int .u8 0, .int .u8 0, .int .u8 0, .int .u8 0, .int .u8 0, .int .u8 0, .int .u8 0, .int .i64 0, .int .i64 0, .int .i64 0, .slice none 0 0] 26)).alloc (.cells #[.int .u64 0, .int .u64 0, .int .u64 0, .int .u64 0] 114)) from ((h_two w _ _).alloc (by simp; omega) _).alloc (by simp; omega) _)
  generalize ((((w.alloc (.cells #[.int .u8 0, .int .u8 0, .int .u8 0, .int .u8 0, .int .u8 0, .int .u8 0, .int .u8 0, .int .u8 0, .int .i64 0, .int .i64 0, .int .i64 0, .slice none 0 0] 26)).alloc (.cells #[.slice A n c, .int .i64 0, .int .i64 0] 113)).alloc (.cells #[.int .u8 0, .int .u8 0, .int .u8 0, .int .u8 0, .int .u8 0, .int .u8 0, .int .u8 0, .int .u8 0, .int .i64 0, .int .i64 0, .int .i64 0, .slice none 0 0] 26)).alloc (.cells #[.int .u64 0, .int .u64 0, .int .u64 0, .int .u64 0] 114)) = w0 at *
  have hgx : w.heap.size < w.heap.size + 1 := by omega
  have hgr : w.heap.size + 1 < w.heap.size + 1 + 1 := by omega
  have hgp : w.heap.size + 1 + 1 < w.heap.size + 1 + 1 + 1 := by omega
  generalize w.heap.size + 1 + 1 + 1 = gn at *
  generalize w.heap.size + 1 + 1 = gp at *
  generalize w.heap.size + 1 = gr at *
  have G0 := good0 l; have G1 := good1 l; have G2 := good2 l; have G3 := good3 l; have G4 := good4 l; have G5 := good5 l
  have HG0 := Lib.hid G0; have HG1 := Lib.hid G1; have HG2 := Lib.hid G2; have HG3 := Lib.hid G3; have HG4 := Lib.hid G4; have HG5 := Lib.hid G5
  clear G0 G1 G2 G3 G4 G5
  obtain ⟨ef, e0, e1, e2⟩ := free3 HR0.out
  simp only at e1 e2
  go_wp2_with fail
  refine (rname_any A n c ⟨l, 0, 0⟩ w0 ((Hr.out.below Hw0.out (Nat.le_refl _)).more Hw0.out.size) hnc hn (Nat.zero_le _) Hb.out).mono ?_
  rintro e w1 ⟨rfl, hb1⟩
  have HX1 := Lib.hid (block_below HX0.out hb1 (block_lt HX0.out)); have HR1 := Lib.hid (block_below HR0.out hb1 (block_lt HR0.out)); have HP1 := Lib.hid (block_below HP0.out hb1 (block_lt HP0.out)); have HN1 := Lib.hid (block_below HN0.out hb1 (block_lt HN0.out)); have Hw1 := Lib.hid (Hw0.out.trans (hb1.mono Hw0.out.size))
  clear hb1 ef e0 e1 e2 HX0 HR0 HP0 HN0 Hw0
  rw [show (nameRS ⟨l, 0, 0⟩).1 = p1 l from rfl]
  generalize hnm : (nameRS ⟨l, 0, 0⟩).2 = nm at *
  have Hnm := Lib.hid hnm
  clear hnm
  obtain ⟨ef, e0, e1, e2⟩ := free3 HR1.out
  have r := block_cell HP1.out
  have r0 := r 0; have r1 := r 1; have r2 := r 2; have r3 := r 3; have r4 := r 4; have r5 := r 5; have r6 := r 6; have r7 := r 7; have r8 := r 8; have r9 := r 9; have r10 := r 10; have r11 := r 11
  have rf := block_free HP1.out
  simp at r0 r1 r2 r3 r4 r5 r6 r7 r8 r9 r10 r11
  clear r
  go_upto_region 5 with fail
  clear ef e0 e1 e2 r0 r1 r2 r3 r4 r5 r6 r7 r8 r9 r10 r11 rf
  have h3 := set3 HR1.out (.slice A n c) (.int .i64 ((p1 l).at_ : Int)) (.int .i64 (p1 l).err)
  have hs3 := h3.1
  have hg3 := h3.2
  clear h3
  generalize ((w1.setCell ⟨gr, 0, none⟩ (.slice A n c)).setCell ⟨gr, 1, none⟩ (.int .i64 ((p1 l).at_ : Int))).setCell ⟨gr, 2, none⟩ (.int .i64 (p1 l).err) = w2 at *
  have HR2 := Lib.hid hs3; have HX2 := Lib.hid (block_grown HX1.out hg3 (by intro e; injection e with e; omega)); have HP2 := Lib.hid (block_grown HP1.out hg3 (by intro e; injection e with e; omega)); have HN2 := Lib.hid (block_grown HN1.out hg3 (by intro e; injection e with e; omega)); have Hw2 := Lib.hid (Hw1.out.grown hg3 Hw1.out.size (fun k hk => by injection hk with hk; omega))
  clear hs3 hg3 HR1 HX1 HP1 HN1 Hw1
  have hs8 := set8_12 HP2.out (.int .u8 (nm.x0 : Int)) (.int .u8 (nm.x1 : Int)) (.int .u8 (nm.x2 : Int)) (.int .u8 (nm.x3 : Int)) (.int .u8 (nm.x4 : Int)) (.int .u8 (nm.x5 : Int)) (.int .u8 (nm.x6 : Int)) (.int .u8 (nm.x7 : Int))
  have hg8 := grown_set8 w2 gp (.int .u8 (nm.x0 : Int)) (.int .u8 (nm.x1 : Int)) (.int .u8 (nm.x2 : Int)) (.int .u8 (nm.x3 : Int)) (.int .u8 (nm.x4 : Int)) (.int .u8 (nm.x5 : Int)) (.int .u8 (nm.x6 : Int)) (.int .u8 (nm.x7 : Int))
  generalize (((((((w2.setCell ⟨gp, 0, none⟩ (.int .u8 (nm.x0 : Int))).setCell ⟨gp, 1, none⟩ (.int .u8 (nm.x1 : Int))).setCell ⟨gp, 2, none⟩ (.int .u8 (nm.x2 : Int))).setCell ⟨gp, 3, none⟩ (.int .u8 (nm.x3 : Int))).setCell ⟨gp, 4, none⟩ (.int .u8 (nm.x4 : Int))).setCell ⟨gp, 5, none⟩ (.int .u8 (nm.x5 : Int))).setCell ⟨gp, 6, none⟩ (.int .u8 (nm.x6 : Int))).setCell ⟨gp, 7, none⟩ (.int .u8 (nm.x7 : Int)) = w3 at *
  have HP3 := Lib.hid hs8; have HX3 := Lib.hid (block_grown HX2.out hg8 (by intro e; injection e with e; omega)); have HR3 := Lib.hid (block_grown HR2.out hg8 (by intro e; injection e with e; omega)); have HN3 := Lib.hid (block_grown HN2.out hg8 (by intro e; injection e with e; omega)); have Hw3 := Lib.hid (Hw2.out.grown hg8 Hw2.out.size (fun k hk => by injection hk with hk; omega))
  clear hs8 hg8 HR2 HX2 HP2 HN2 Hw2
  obtain ⟨ef, e0, e1, e2⟩ := free3 HR3.out
  go_wp2_with fail
  refine (readr_at A n c 1099511627776 (p1 l) w3 (by rw [HG1.out.1]; exact (Hr.out.below Hw3.out (Nat.le_refl _)).more Hw3.out.size) hnc hn (Nat.le_trans HG1.out.2 (Nat.le_of_eq Hll.out)) (by rw [HG1.out.1]; exact Hb.out) (by omega)).mono ?_
  rintro e w4 ⟨rfl, hb1⟩
  have HX4 := Lib.hid (block_below HX3.out hb1 (block_lt HX3.out)); have HR4 := Lib.hid (block_below HR3.out hb1 (block_lt HR3.out)); have HP4 := Lib.hid (block_below HP3.out hb1 (block_lt HP3.out)); have HN4 := Lib.hid (block_below HN3.out hb1 (block_lt HN3.out)); have Hw4 := Lib.hid (Hw3.out.trans (hb1.mono Hw3.out.size))
  clear hb1 ef e0 e1 e2 HX3 HR3 HP3 HN3 Hw3
  rw [show (numRS (p1 l) (Int.toNat 1099511627776)).1 = p2 l from rfl, show (numRS (p1 l) (Int.toNat 1099511627776)).2 = (numRS (p1 l) farN).2 from rfl]
  have hle0 := numRS_le (p1 l) farN
  generalize hqno : (numRS (p1 l) farN).2 = no at *
  have Hvno := Lib.hid hqno
  clear hqno
  obtain ⟨ef, e0, e1, e2⟩ := free3 HR4.out
  obtain ⟨nf, n0, n1, n2, n3⟩ := free4 HN4.out
  go_upto_region 6 with fail
  clear ef e0 e1 e2 nf n0 n1 n2 n3
  have h3 := set3 HR4.out (.slice A n c) (.int .i64 ((p2 l).at_ : Int)) (.int .i64 (p2 l).err)
  have hs3 := h3.1
  have hg3 := h3.2
  clear h3
  generalize ((w4.setCell ⟨gr, 0, none⟩ (.slice A n c)).setCell ⟨gr, 1, none⟩ (.int .i64 ((p2 l).at_ : Int))).setCell ⟨gr, 2, none⟩ (.int .i64 (p2 l).err) = w5 at *
  have HR5 := Lib.hid hs3; have HX5 := Lib.hid (block_grown HX4.out hg3 (by intro e; injection e with e; omega)); have HP5 := Lib.hid (block_grown HP4.out hg3 (by intro e; injection e with e; omega)); have HN5 := Lib.hid (block_grown HN4.out hg3 (by intro e; injection e with e; omega)); have Hw5 := Lib.hid (Hw4.out.grown hg3 Hw4.out.size (fun k hk => by injection hk with hk; omega))
  clear hs3 hg3 HR4 HX4 HP4 HN4 Hw4
  have hs1 := setn0 HN5.out (.int .u64 (no : Int))
  have hg1 := grown_set1 w5 gn 0 (.int .u64 (no : Int))
  generalize w5.setCell ⟨gn, 0, none⟩ (.int .u64 (no : Int)) = w6 at *
  have HN6 := Lib.hid hs1; have HX6 := Lib.hid (block_grown HX5.out hg1 (by intro e; injection e with e; omega)); have HR6 := Lib.hid (block_grown HR5.out hg1 (by intro e; injection e with e; omega)); have HP6 := Lib.hid (block_grown HP5.out hg1 (by intro e; injection e with e; omega)); have Hw6 := Lib.hid (Hw5.out.grown hg1 Hw5.out.size (fun k hk => by injection hk with hk; omega))
  clear hs1 hg1 HR5 HX5 HP5 HN5 Hw5
  obtain ⟨ef, e0, e1, e2⟩ := free3 HR6.out
  go_wp2_with fail
  refine (readr_at A n c 1125899906842624 (p2 l) w6 (by rw [HG2.out.1]; exact (Hr.out.below Hw6.out (Nat.le_refl _)).more Hw6.out.size) hnc hn (Nat.le_trans HG2.out.2 (Nat.le_of_eq Hll.out)) (by rw [HG2.out.1]; exact Hb.out) (by omega)).mono ?_
  rintro e w7 ⟨rfl, hb1⟩
  have HX7 := Lib.hid (block_below HX6.out hb1 (block_lt HX6.out)); have HR7 := Lib.hid (block_below HR6.out hb1 (block_lt HR6.out)); have HP7 := Lib.hid (block_below HP6.out hb1 (block_lt HP6.out)); have HN7 := Lib.hid (block_below HN6.out hb1 (block_lt HN6.out)); have Hw7 := Lib.hid (Hw6.out.trans (hb1.mono Hw6.out.size))
  clear hb1 ef e0 e1 e2 HX6 HR6 HP6 HN6 Hw6
  rw [show (numRS (p2 l) (Int.toNat 1125899906842624)).1 = p3 l from rfl, show (numRS (p2 l) (Int.toNat 1125899906842624)).2 = (numRS (p2 l) mostN).2 from rfl]
  have hle1 := numRS_le (p2 l) mostN
  generalize hqh0 : (numRS (p2 l) mostN).2 = h0 at *
  have Hvh0 := Lib.hid hqh0
  clear hqh0
  obtain ⟨ef, e0, e1, e2⟩ := free3 HR7.out
  obtain ⟨nf, n0, n1, n2, n3⟩ := free4 HN7.out
  go_upto_region 7 with fail
  clear ef e0 e1 e2 nf n0 n1 n2 n3
  have h3 := set3 HR7.out (.slice A n c) (.int .i64 ((p3 l).at_ : Int)) (.int .i64 (p3 l).err)
  have hs3 := h3.1
  have hg3 := h3.2
  clear h3
  generalize ((w7.setCell ⟨gr, 0, none⟩ (.slice A n c)).setCell ⟨gr, 1, none⟩ (.int .i64 ((p3 l).at_ : Int))).setCell ⟨gr, 2, none⟩ (.int .i64 (p3 l).err) = w8 at *
  have HR8 := Lib.hid hs3; have HX8 := Lib.hid (block_grown HX7.out hg3 (by intro e; injection e with e; omega)); have HP8 := Lib.hid (block_grown HP7.out hg3 (by intro e; injection e with e; omega)); have HN8 := Lib.hid (block_grown HN7.out hg3 (by intro e; injection e with e; omega)); have Hw8 := Lib.hid (Hw7.out.grown hg3 Hw7.out.size (fun k hk => by injection hk with hk; omega))
  clear hs3 hg3 HR7 HX7 HP7 HN7 Hw7
  have hs1 := setn1 HN8.out (.int .u64 (h0 : Int))
  have hg1 := grown_set1 w8 gn 1 (.int .u64 (h0 : Int))
  generalize w8.setCell ⟨gn, 1, none⟩ (.int .u64 (h0 : Int)) = w9 at *
  have HN9 := Lib.hid hs1; have HX9 := Lib.hid (block_grown HX8.out hg1 (by intro e; injection e with e; omega)); have HR9 := Lib.hid (block_grown HR8.out hg1 (by intro e; injection e with e; omega)); have HP9 := Lib.hid (block_grown HP8.out hg1 (by intro e; injection e with e; omega)); have Hw9 := Lib.hid (Hw8.out.grown hg1 Hw8.out.size (fun k hk => by injection hk with hk; omega))
  clear hs1 hg1 HR8 HX8 HP8 HN8 Hw8
  obtain ⟨ef, e0, e1, e2⟩ := free3 HR9.out
  go_wp2_with fail
  refine (readr_at A n c 1125899906842624 (p3 l) w9 (by rw [HG3.out.1]; exact (Hr.out.below Hw9.out (Nat.le_refl _)).more Hw9.out.size) hnc hn (Nat.le_trans HG3.out.2 (Nat.le_of_eq Hll.out)) (by rw [HG3.out.1]; exact Hb.out) (by omega)).mono ?_
  rintro e w10 ⟨rfl, hb1⟩
  have HX10 := Lib.hid (block_below HX9.out hb1 (block_lt HX9.out)); have HR10 := Lib.hid (block_below HR9.out hb1 (block_lt HR9.out)); have HP10 := Lib.hid (block_below HP9.out hb1 (block_lt HP9.out)); have HN10 := Lib.hid (block_below HN9.out hb1 (block_lt HN9.out)); have Hw10 := Lib.hid (Hw9.out.trans (hb1.mono Hw9.out.size))
  clear hb1 ef e0 e1 e2 HX9 HR9 HP9 HN9 Hw9
  rw [show (numRS (p3 l) (Int.toNat 1125899906842624)).1 = p4 l from rfl, show (numRS (p3 l) (Int.toNat 1125899906842624)).2 = (numRS (p3 l) mostN).2 from rfl]
  have hle2 := numRS_le (p3 l) mostN
  generalize hqh1 : (numRS (p3 l) mostN).2 = h1 at *
  have Hvh1 := Lib.hid hqh1
  clear hqh1
  obtain ⟨ef, e0, e1, e2⟩ := free3 HR10.out
  obtain ⟨nf, n0, n1, n2, n3⟩ := free4 HN10.out
  go_upto_region 8 with fail
  clear ef e0 e1 e2 nf n0 n1 n2 n3
  have h3 := set3 HR10.out (.slice A n c) (.int .i64 ((p4 l).at_ : Int)) (.int .i64 (p4 l).err)
  have hs3 := h3.1
  have hg3 := h3.2
  clear h3
  generalize ((w10.setCell ⟨gr, 0, none⟩ (.slice A n c)).setCell ⟨gr, 1, none⟩ (.int .i64 ((p4 l).at_ : Int))).setCell ⟨gr, 2, none⟩ (.int .i64 (p4 l).err) = w11 at *
  have HR11 := Lib.hid hs3; have HX11 := Lib.hid (block_grown HX10.out hg3 (by intro e; injection e with e; omega)); have HP11 := Lib.hid (block_grown HP10.out hg3 (by intro e; injection e with e; omega)); have HN11 := Lib.hid (block_grown HN10.out hg3 (by intro e; injection e with e; omega)); have Hw11 := Lib.hid (Hw10.out.grown hg3 Hw10.out.size (fun k hk => by injection hk with hk; omega))
  clear hs3 hg3 HR10 HX10 HP10 HN10 Hw10
  have hs1 := setn2 HN11.out (.int .u64 (h1 : Int))
  have hg1 := grown_set1 w11 gn 2 (.int .u64 (h1 : Int))
  generalize w11.setCell ⟨gn, 2, none⟩ (.int .u64 (h1 : Int)) = w12 at *
  have HN12 := Lib.hid hs1; have HX12 := Lib.hid (block_grown HX11.out hg1 (by intro e; injection e with e; omega)); have HR12 := Lib.hid (block_grown HR11.out hg1 (by intro e; injection e with e; omega)); have HP12 := Lib.hid (block_grown HP11.out hg1 (by intro e; injection e with e; omega)); have Hw12 := Lib.hid (Hw11.out.grown hg1 Hw11.out.size (fun k hk => by injection hk with hk; omega))
  clear hs1 hg1 HR11 HX11 HP11 HN11 Hw11
  obtain ⟨ef, e0, e1, e2⟩ := free3 HR12.out
  go_wp2_with fail
  refine (readr_at A n c 16 (p4 l) w12 (by rw [HG4.out.1]; exact (Hr.out.below Hw12.out (Nat.le_refl _)).more Hw12.out.size) hnc hn (Nat.le_trans HG4.out.2 (Nat.le_of_eq Hll.out)) (by rw [HG4.out.1]; exact Hb.out) (by omega)).mono ?_
  rintro e w13 ⟨rfl, hb1⟩
  have HX13 := Lib.hid (block_below HX12.out hb1 (block_lt HX12.out)); have HR13 := Lib.hid (block_below HR12.out hb1 (block_lt HR12.out)); have HP13 := Lib.hid (block_below HP12.out hb1 (block_lt HP12.out)); have HN13 := Lib.hid (block_below HN12.out hb1 (block_lt HN12.out)); have Hw13 := Lib.hid (Hw12.out.trans (hb1.mono Hw12.out.size))
  clear hb1 ef e0 e1 e2 HX12 HR12 HP12 HN12 Hw12
  rw [show (numRS (p4 l) (Int.toNat 16)).1 = p5 l from rfl, show (numRS (p4 l) (Int.toNat 16)).2 = (numRS (p4 l) 16).2 from rfl]
  have hle3 := numRS_le (p4 l) 16
  generalize hqmany : (numRS (p4 l) 16).2 = many at *
  have Hvmany := Lib.hid hqmany
  clear hqmany
  obtain ⟨ef, e0, e1, e2⟩ := free3 HR13.out
  obtain ⟨nf, n0, n1, n2, n3⟩ := free4 HN13.out
  go_upto_region 9 with fail
  clear ef e0 e1 e2 nf n0 n1 n2 n3
  have h3 := set3 HR13.out (.slice A n c) (.int .i64 ((p5 l).at_ : Int)) (.int .i64 (p5 l).err)
  have hs3 := h3.1
  have hg3 := h3.2
  clear h3
  generalize ((w13.setCell ⟨gr, 0, none⟩ (.slice A n c)).setCell ⟨gr, 1, none⟩ (.int .i64 ((p5 l).at_ : Int))).setCell ⟨gr, 2, none⟩ (.int .i64 (p5 l).err) = w14 at *
  have HR14 := Lib.hid hs3; have HX14 := Lib.hid (block_grown HX13.out hg3 (by intro e; injection e with e; omega)); have HP14 := Lib.hid (block_grown HP13.out hg3 (by intro e; injection e with e; omega)); have HN14 := Lib.hid (block_grown HN13.out hg3 (by intro e; injection e with e; omega)); have Hw14 := Lib.hid (Hw13.out.grown hg3 Hw13.out.size (fun k hk => by injection hk with hk; omega))
  clear hs3 hg3 HR13 HX13 HP13 HN13 Hw13
  have hs1 := setn3 HN14.out (.int .u64 (many : Int))
  have hg1 := grown_set1 w14 gn 3 (.int .u64 (many : Int))
  generalize w14.setCell ⟨gn, 3, none⟩ (.int .u64 (many : Int)) = w15 at *
  have HN15 := Lib.hid hs1; have HX15 := Lib.hid (block_grown HX14.out hg1 (by intro e; injection e with e; omega)); have HR15 := Lib.hid (block_grown HR14.out hg1 (by intro e; injection e with e; omega)); have HP15 := Lib.hid (block_grown HP14.out hg1 (by intro e; injection e with e; omega)); have Hw15 := Lib.hid (Hw14.out.grown hg1 Hw14.out.size (fun k hk => by injection hk with hk; omega))
  clear hs1 hg1 HR14 HX14 HP14 HN14 Hw14
  have bno : (no : Int) ≤ 1099511627776 := by have : no ≤ 1099511627776 := hle0; omega
  have bh0 : (h0 : Int) ≤ 1125899906842624 := by have : h0 ≤ 1125899906842624 := hle1; omega
  have bh1 : (h1 : Int) ≤ 1125899906842624 := by have : h1 ≤ 1125899906842624 := hle2; omega
  have bmany : (many : Int) ≤ 16 := by omega
  obtain ⟨nf, n0, n1, n2, n3⟩ := free4 HN15.out
  have r := block_cell HP15.out
  have r0 := r 0; have r1 := r 1; have r2 := r 2; have r3 := r 3; have r4 := r 4; have r5 := r 5; have r6 := r 6; have r7 := r 7; have r8 := r 8; have r9 := r 9; have r10 := r 10; have r11 := r 11
  have rf := block_free HP15.out
  simp at r0 r1 r2 r3 r4 r5 r6 r7 r8 r9 r10 r11
  clear r
  go_wp2
  go_region
  clear nf n0 n1 n2 n3 r0 r1 r2 r3 r4 r5 r6 r7 r8 r9 r10 r11 rf
  have h3 := set3_12 HP15.out (.int .i64 (no : Int)) (.int .i64 (h0 : Int)) (.int .i64 (h1 : Int))
  have hs3 := h3.1
  have hg3 := h3.2
  clear h3
  generalize ((w15.setCell ⟨gp, 8, none⟩ (.int .i64 (no : Int))).setCell ⟨gp, 9, none⟩ (.int .i64 (h0 : Int))).setCell ⟨gp, 10, none⟩ (.int .i64 (h1 : Int)) = w16 at *
  have hg3d := hgrown_drew hg3
  have HP17 : Hid (w16.drew.heap[gp]? = _) := Lib.hid hs3
  have HX17 : Hid (w16.drew.heap[w.heap.size]? = _) := Lib.hid (block_grown HX15.out hg3d (by intro e; injection e with e; omega)); have HR17 : Hid (w16.drew.heap[gr]? = _) := Lib.hid (block_grown HR15.out hg3d (by intro e; injection e with e; omega)); have HN17 : Hid (w16.drew.heap[gn]? = _) := Lib.hid (block_grown HN15.out hg3d (by intro e; injection e with e; omega)); have Hw17 := Lib.hid (Hw15.out.grown hg3 Hw15.out.size (fun k hk => by injection hk with hk; omega)).drew
  clear hg3d
  clear hs3 hg3 HX15 HR15 HP15 HN15 Hw15
  generalize w16.drew = w17 at *
  go_wp2
  go_loopw [7] (fun i wr => ∃ (k n' : Nat) (A' : Option Addr) (c' : Nat), k ≤ many ∧ i = .int .i64 (k : Int) ∧ Hid (n' ≤ k) ∧ Hid (wr.heap[gr]? = some (.cells #[.slice A n c, .int .i64 ((hRS (p5 l) k).1.at_ : Int), .int .i64 (hRS (p5 l) k).1.err] 113 (0, 0))) ∧ Hid (wr.heap[w.heap.size]? = some (.cells #[.int .u8 0, .int .u8 0, .int .u8 0, .int .u8 0, .int .u8 0, .int .u8 0, .int .u8 0, .int .u8 0, .int .i64 0, .int .i64 0, .int .i64 0, .slice none 0 0] 26 (0, 0))) ∧ Hid (wr.heap[gp]? = some (.cells #[.int .u8 (nm.x0 : Int), .int .u8 (nm.x1 : Int), .int .u8 (nm.x2 : Int), .int .u8 (nm.x3 : Int), .int .u8 (nm.x4 : Int), .int .u8 (nm.x5 : Int), .int .u8 (nm.x6 : Int), .int .u8 (nm.x7 : Int), .int .i64 (no : Int), .int .i64 (h0 : Int), .int .i64 (h1 : Int), .slice A' n' c'] 26 (0, 0))) ∧
    Hid (wr.heap[gn]? = some (.cells #[.int .u64 (no : Int), .int .u64 (h0 : Int), .int .u64 (h1 : Int), .int .u64 (many : Int)] 114 (0, 0))) ∧ Hid (wr.ownsRow (gn + 1) 60 11 (.slice A' n' c') n' (flatH (hRS (p5 l) k).2)) ∧ Hid (Below w.heap.size w wr)) (fun i _ => many - (intOf i).toNat)
  case atStart => exact ⟨0, 0, none, 0, by omega, rfl, Lib.hid (by omega), HR17, HX17, HP17, HN17, Lib.hid (World.ownsRow_nil _ _ _ _), Hw17⟩
  case round =>
    obtain ⟨k, n', A', c', hk, rfl, Hn', HR20, HX20, HP20, HN20, HO20, Hw20⟩ := hrel
    have HGk := Lib.hid (good_hs HG5.out k)
    obtain ⟨ef, e0, e1, e2⟩ := free3 HR20.out
    obtain ⟨nf, n0, n1, n2, n3⟩ := free4 HN20.out
    by_cases hgo : k < many ∧ (hRS (p5 l) k).1.err = 0
    · obtain ⟨hlt, he⟩ := hgo
      have hd1 : decide ((k : Int) < (many : Int)) = true := decide_eq_true (by omega)
      have hd2 : ((hRS (p5 l) k).1.err == 0) = true := by simp [he]
      have Hgo := Lib.hid (hRS_go he)
      clear he
      generalize hRS (p5 l) k = q at *
      obtain ⟨wo, rfl⟩ : ∃ wo : World, wo = wr := ⟨_, rfl⟩
      go_upto_region 15 with fail
      have hgl : gn < wo.heap.size := block_lt HN20.out
      have Hrow := Lib.hid (fun k hk => (HO20.out.lt k hk).2)
      have HH21 := Lib.hid (show ((wo.alloc (.cells #[.int .u8 0, .int .u8 0, .int .u8 0, .int .u8 0, .int .u8 0, .int .u8 0, .int .u8 0, .int .u8 0, .int .i64 0, .int .i64 0, .int .i64 0] 60)).alloc (.cells #[.int .u64 0, .int .u64 0, .int .u64 0] 119)).heap[wo.heap.size]? = some (.cells #[.int .u8 0, .int .u8 0, .int .u8 0, .int .u8 0, .int .u8 0, .int .u8 0, .int .u8 0, .int .u8 0, .int .i64 0, .int .i64 0, .int .i64 0] 60 (0, 0)) from block_alloc (heap_alloc_new wo _) _)
      have HM21 := Lib.hid (show ((wo.alloc (.cells #[.int .u8 0, .int .u8 0, .int .u8 0, .int .u8 0, .int .u8 0, .int .u8 0, .int .u8 0, .int .u8 0, .int .i64 0, .int .i64 0, .int .i64 0] 60)).alloc (.cells #[.int .u64 0, .int .u64 0, .int .u64 0] 119)).heap[wo.heap.size + 1]? = some (.cells #[.int .u64 0, .int .u64 0, .int .u64 0] 119 (0, 0)) from h_at (by simp))
      have hb1 := h_two wo (.cells #[.int .u8 0, .int .u8 0, .int .u8 0, .int .u8 0, .int .u8 0, .int .u8 0, .int .u8 0, .int .u8 0, .int .i64 0, .int .i64 0, .int .i64 0] 60) (.cells #[.int .u64 0, .int .u64 0, .int .u64 0] 119)
      have HX21 := Lib.hid (block_below HX20.out hb1 (block_lt HX20.out)); have HR21 := Lib.hid (block_below HR20.out hb1 (block_lt HR20.out)); have HP21 := Lib.hid (block_below HP20.out hb1 (block_lt HP20.out)); have HN21 := Lib.hid (block_below HN20.out hb1 (block_lt HN20.out)); have HO21 := Lib.hid (own_below HO20.out hb1); have Hw21 := Lib.hid (Hw20.out.trans (hb1.mono Hw20.out.size))
      clear hb1 HX20 HR20 HP20 HN20 HO20 Hw20 ef e0 e1 e2 nf n0 n1 n2 n3
      generalize (wo.alloc (.cells #[.int .u8 0, .int .u8 0, .int .u8 0, .int .u8 0, .int .u8 0, .int .u8 0, .int .u8 0, .int .u8 0, .int .i64 0, .int .i64 0, .int .i64 0] 60)).alloc (.cells #[.int .u64 0, .int .u64 0, .int .u64 0] 119) = w21 at *
      have hgm : wo.heap.size < wo.heap.size + 1 := by omega
      generalize wo.heap.size + 1 = gm at *
      generalize wo.heap.size = gh at *
      obtain ⟨ef, e0, e1, e2⟩ := free3 HR21.out
      go_wp2_with fail
      refine (rname_any A n c q.1 w21 (by rw [HGk.out.1]; exact (Hr.out.below Hw21.out (Nat.le_refl _)).more Hw21.out.size) hnc hn (Nat.le_trans HGk.out.2 (Nat.le_of_eq Hll.out)) (by rw [HGk.out.1]; exact Hb.out)).mono ?_
      rintro e w22 ⟨rfl, hb1⟩
      have HX22 := Lib.hid (block_below HX21.out hb1 (block_lt HX21.out)); have HR22 := Lib.hid (block_below HR21.out hb1 (block_lt HR21.out)); have HP22 := Lib.hid (block_below HP21.out hb1 (block_lt HP21.out)); have HN22 := Lib.hid (block_below HN21.out hb1 (block_lt HN21.out)); have HH22 := Lib.hid (block_below HH21.out hb1 (block_lt HH21.out)); have HM22 := Lib.hid (block_below HM21.out hb1 (block_lt HM21.out)); have HO22 := Lib.hid (own_below HO21.out hb1); have Hw22 := Lib.hid (Hw21.out.trans (hb1.mono Hw21.out.size))
      clear hb1 HX21 HR21 HP21 HN21 HH21 HM21 HO21 Hw21
      clear ef e0 e1 e2
      have HGa := Lib.hid (good_name HGk.out)
      generalize hta : (nameRS q.1).1 = ta at *
      generalize hnk : (nameRS q.1).2 = nk at *
      have Hta := Lib.hid hta; have Hnk := Lib.hid hnk
      clear hta hnk
      obtain ⟨ef, e0, e1, e2⟩ := free3 HR22.out
      have y := block_cell HH22.out
      have y0 := y 0; have y1 := y 1; have y2 := y 2; have y3 := y 3; have y4 := y 4; have y5 := y 5; have y6 := y 6; have y7 := y 7
      have yf := block_free HH22.out
      simp at y0 y1 y2 y3 y4 y5 y6 y7
      clear y
      go_upto_region 16 with fail
      clear ef e0 e1 e2 y0 y1 y2 y3 y4 y5 y6 y7 yf
      have h3 := set3 HR22.out (.slice A n c) (.int .i64 (ta.at_ : Int)) (.int .i64 ta.err)
      have hs3 := h3.1
      have hg3 := h3.2
      clear h3
      generalize ((w22.setCell ⟨gr, 0, none⟩ (.slice A n c)).setCell ⟨gr, 1, none⟩ (.int .i64 (ta.at_ : Int))).setCell ⟨gr, 2, none⟩ (.int .i64 ta.err) = w23 at *
      have HR23 := Lib.hid hs3
      have HX23 := Lib.hid (block_grown HX22.out hg3 (by intro e; injection e with e; omega)); have HN23 := Lib.hid (block_grown HN22.out hg3 (by intro e; injection e with e; omega)); have HO23 := Lib.hid (HO22.out.kept hg3 (.inr (fun e => by have h1 := (HO22.out.lt _ e).1; have h2 := Hrow.out _ e; omega))); have Hw23 := Lib.hid (Hw22.out.grown hg3 Hw22.out.size (fun k hk => by injection hk with hk; omega))
      have HP23 := Lib.hid (block_grown HP22.out hg3 (by intro e; injection e with e; omega))
      have HH23 := Lib.hid (block_grown HH22.out hg3 (by intro e; injection e with e; omega))
      have HM23 := Lib.hid (block_grown HM22.out hg3 (by intro e; injection e with e; omega))
      clear hs3 hg3 HX22 HR22 HP22 HN22 HH22 HM22 HO22 Hw22
      have hs8 := set8_11 HH23.out (.int .u8 (nk.x0 : Int)) (.int .u8 (nk.x1 : Int)) (.int .u8 (nk.x2 : Int)) (.int .u8 (nk.x3 : Int)) (.int .u8 (nk.x4 : Int)) (.int .u8 (nk.x5 : Int)) (.int .u8 (nk.x6 : Int)) (.int .u8 (nk.x7 : Int))
      have hg8 := grown_set8 w23 gh (.int .u8 (nk.x0 : Int)) (.int .u8 (nk.x1 : Int)) (.int .u8 (nk.x2 : Int)) (.int .u8 (nk.x3 : Int)) (.int .u8 (nk.x4 : Int)) (.int .u8 (nk.x5 : Int)) (.int .u8 (nk.x6 : Int)) (.int .u8 (nk.x7 : Int))
      generalize (((((((w23.setCell ⟨gh, 0, none⟩ (.int .u8 (nk.x0 : Int))).setCell ⟨gh, 1, none⟩ (.int .u8 (nk.x1 : Int))).setCell ⟨gh, 2, none⟩ (.int .u8 (nk.x2 : Int))).setCell ⟨gh, 3, none⟩ (.int .u8 (nk.x3 : Int))).setCell ⟨gh, 4, none⟩ (.int .u8 (nk.x4 : Int))).setCell ⟨gh, 5, none⟩ (.int .u8 (nk.x5 : Int))).setCell ⟨gh, 6, none⟩ (.int .u8 (nk.x6 : Int))).setCell ⟨gh, 7, none⟩ (.int .u8 (nk.x7 : Int)) = w24 at *
      have HH24 := Lib.hid hs8
      have HX24 := Lib.hid (block_grown HX23.out hg8 (by intro e; injection e with e; omega)); have HN24 := Lib.hid (block_grown HN23.out hg8 (by intro e; injection e with e; omega)); have HO24 := Lib.hid (HO23.out.kept hg8 (.inr (fun e => by have h1 := (HO23.out.lt _ e).1; have h2 := Hrow.out _ e; omega))); have Hw24 := Lib.hid (Hw23.out.grown hg8 Hw23.out.size (fun k hk => by injection hk with hk; omega))
      have HP24 := Lib.hid (block_grown HP23.out hg8 (by intro e; injection e with e; omega))
      have HR24 := Lib.hid (block_grown HR23.out hg8 (by intro e; injection e with e; omega))
      have HM24 := Lib.hid (block_grown HM23.out hg8 (by intro e; injection e with e; omega))
      clear hs8 hg8 HX23 HR23 HP23 HN23 HH23 HM23 HO23 Hw23
      obtain ⟨ef, e0, e1, e2⟩ := free3 HR24.out
      go_wp2_with fail
      refine (readr_at A n c 1125899906842624 ta w24 (by rw [HGa.out.1]; exact (Hr.out.below Hw24.out (Nat.le_refl _)).more Hw24.out.size) hnc hn (Nat.le_trans HGa.out.2 (Nat.le_of_eq Hll.out)) (by rw [HGa.out.1]; exact Hb.out) (by omega)).mono ?_
      rintro e w25 ⟨rfl, hb1⟩
      have HX25 := Lib.hid (block_below HX24.out hb1 (block_lt HX24.out)); have HR25 := Lib.hid (block_below HR24.out hb1 (block_lt HR24.out)); have HP25 := Lib.hid (block_below HP24.out hb1 (block_lt HP24.out)); have HN25 := Lib.hid (block_below HN24.out hb1 (block_lt HN24.out)); have HH25 := Lib.hid (block_below HH24.out hb1 (block_lt HH24.out)); have HM25 := Lib.hid (block_below HM24.out hb1 (block_lt HM24.out)); have HO25 := Lib.hid (own_below HO24.out hb1); have Hw25 := Lib.hid (Hw24.out.trans (hb1.mono Hw24.out.size))
      clear hb1 HX24 HR24 HP24 HN24 HH24 HM24 HO24 Hw24
      clear ef e0 e1 e2
      rw [show Int.toNat 1125899906842624 = mostN from rfl]
      have HGtb := Lib.hid (good_num HGa.out mostN)
      have hleak := numRS_le ta mostN
      generalize hqtb : (numRS ta mostN).1 = tb at *
      generalize hqak : (numRS ta mostN).2 = ak at *
      have Hvtb := Lib.hid hqtb; have Hvak := Lib.hid hqak
      clear hqtb hqak
      obtain ⟨ef, e0, e1, e2⟩ := free3 HR25.out
      obtain ⟨mf, m0, m1, m2⟩ := free3 HM25.out
      go_upto_region 17 with fail
      clear ef e0 e1 e2 mf m0 m1 m2
      have h3 := set3 HR25.out (.slice A n c) (.int .i64 (tb.at_ : Int)) (.int .i64 tb.err)
      have hs3 := h3.1
      have hg3 := h3.2
      clear h3
      generalize ((w25.setCell ⟨gr, 0, none⟩ (.slice A n c)).setCell ⟨gr, 1, none⟩ (.int .i64 (tb.at_ : Int))).setCell ⟨gr, 2, none⟩ (.int .i64 tb.err) = w26 at *
      have HR26 := Lib.hid hs3
      have HX26 := Lib.hid (block_grown HX25.out hg3 (by intro e; injection e with e; omega)); have HN26 := Lib.hid (block_grown HN25.out hg3 (by intro e; injection e with e; omega)); have HO26 := Lib.hid (HO25.out.kept hg3 (.inr (fun e => by have h1 := (HO25.out.lt _ e).1; have h2 := Hrow.out _ e; omega))); have Hw26 := Lib.hid (Hw25.out.grown hg3 Hw25.out.size (fun k hk => by injection hk with hk; omega))
      have HP26 := Lib.hid (block_grown HP25.out hg3 (by intro e; injection e with e; omega))
      have HH26 := Lib.hid (block_grown HH25.out hg3 (by intro e; injection e with e; omega))
      have HM26 := Lib.hid (block_grown HM25.out hg3 (by intro e; injection e with e; omega))
      clear hs3 hg3 HX25 HR25 HP25 HN25 HH25 HM25 HO25 Hw25
      have hs1 := setm0 HM26.out (.int .u64 (ak : Int))
      have hg1 := grown_set1 w26 gm 0 (.int .u64 (ak : Int))
      generalize w26.setCell ⟨gm, 0, none⟩ (.int .u64 (ak : Int)) = w27 at *
      have HM27 := Lib.hid hs1
      have HX27 := Lib.hid (block_grown HX26.out hg1 (by intro e; injection e with e; omega)); have HN27 := Lib.hid (block_grown HN26.out hg1 (by intro e; injection e with e; omega)); have HO27 := Lib.hid (HO26.out.kept hg1 (.inr (fun e => by have h1 := (HO26.out.lt _ e).1; have h2 := Hrow.out _ e; omega))); have Hw27 := Lib.hid (Hw26.out.grown hg1 Hw26.out.size (fun k hk => by injection hk with hk; omega))
      have HP27 := Lib.hid (block_grown HP26.out hg1 (by intro e; injection e with e; omega))
      have HR27 := Lib.hid (block_grown HR26.out hg1 (by intro e; injection e with e; omega))
      have HH27 := Lib.hid (block_grown HH26.out hg1 (by intro e; injection e with e; omega))
      clear hs1 hg1 HX26 HR26 HP26 HN26 HH26 HM26 HO26 Hw26
      obtain ⟨ef, e0, e1, e2⟩ := free3 HR27.out
      go_wp2_with fail
      refine (readr_at A n c 1 tb w27 (by rw [HGtb.out.1]; exact (Hr.out.below Hw27.out (Nat.le_refl _)).more Hw27.out.size) hnc hn (Nat.le_trans HGtb.out.2 (Nat.le_of_eq Hll.out)) (by rw [HGtb.out.1]; exact Hb.out) (by omega)).mono ?_
      rintro e w28 ⟨rfl, hb1⟩
      have HX28 := Lib.hid (block_below HX27.out hb1 (block_lt HX27.out)); have HR28 := Lib.hid (block_below HR27.out hb1 (block_lt HR27.out)); have HP28 := Lib.hid (block_below HP27.out hb1 (block_lt HP27.out)); have HN28 := Lib.hid (block_below HN27.out hb1 (block_lt HN27.out)); have HH28 := Lib.hid (block_below HH27.out hb1 (block_lt HH27.out)); have HM28 := Lib.hid (block_below HM27.out hb1 (block_lt HM27.out)); have HO28 := Lib.hid (own_below HO27.out hb1); have Hw28 := Lib.hid (Hw27.out.trans (hb1.mono Hw27.out.size))
      clear hb1 HX27 HR27 HP27 HN27 HH27 HM27 HO27 Hw27
      clear ef e0 e1 e2
      rw [show Int.toNat 1 = 1 from rfl]
      have HGtc := Lib.hid (good_num HGtb.out 1)
      have hlefk := numRS_le tb 1
      generalize hqtc : (numRS tb 1).1 = tc at *
      generalize hqfk : (numRS tb 1).2 = fk at *
      have Hvtc := Lib.hid hqtc; have Hvfk := Lib.hid hqfk
      clear hqtc hqfk
      obtain ⟨ef, e0, e1, e2⟩ := free3 HR28.out
      obtain ⟨mf, m0, m1, m2⟩ := free3 HM28.out
      go_upto_region 18 with fail
      clear ef e0 e1 e2 mf m0 m1 m2
      have h3 := set3 HR28.out (.slice A n c) (.int .i64 (tc.at_ : Int)) (.int .i64 tc.err)
      have hs3 := h3.1
      have hg3 := h3.2
      clear h3
      generalize ((w28.setCell ⟨gr, 0, none⟩ (.slice A n c)).setCell ⟨gr, 1, none⟩ (.int .i64 (tc.at_ : Int))).setCell ⟨gr, 2, none⟩ (.int .i64 tc.err) = w29 at *
      have HR29 := Lib.hid hs3
      have HX29 := Lib.hid (block_grown HX28.out hg3 (by intro e; injection e with e; omega)); have HN29 := Lib.hid (block_grown HN28.out hg3 (by intro e; injection e with e; omega)); have HO29 := Lib.hid (HO28.out.kept hg3 (.inr (fun e => by have h1 := (HO28.out.lt _ e).1; have h2 := Hrow.out _ e; omega))); have Hw29 := Lib.hid (Hw28.out.grown hg3 Hw28.out.size (fun k hk => by injection hk with hk; omega))
      have HP29 := Lib.hid (block_grown HP28.out hg3 (by intro e; injection e with e; omega))
      have HH29 := Lib.hid (block_grown HH28.out hg3 (by intro e; injection e with e; omega))
      have HM29 := Lib.hid (block_grown HM28.out hg3 (by intro e; injection e with e; omega))
      clear hs3 hg3 HX28 HR28 HP28 HN28 HH28 HM28 HO28 Hw28
      have hs1 := setm1 HM29.out (.int .u64 (fk : Int))
      have hg1 := grown_set1 w29 gm 1 (.int .u64 (fk : Int))
      generalize w29.setCell ⟨gm, 1, none⟩ (.int .u64 (fk : Int)) = w30 at *
      have HM30 := Lib.hid hs1
      have HX30 := Lib.hid (block_grown HX29.out hg1 (by intro e; injection e with e; omega)); have HN30 := Lib.hid (block_grown HN29.out hg1 (by intro e; injection e with e; omega)); have HO30 := Lib.hid (HO29.out.kept hg1 (.inr (fun e => by have h1 := (HO29.out.lt _ e).1; have h2 := Hrow.out _ e; omega))); have Hw30 := Lib.hid (Hw29.out.grown hg1 Hw29.out.size (fun k hk => by injection hk with hk; omega))
      have HP30 := Lib.hid (block_grown HP29.out hg1 (by intro e; injection e with e; omega))
      have HR30 := Lib.hid (block_grown HR29.out hg1 (by intro e; injection e with e; omega))
      have HH30 := Lib.hid (block_grown HH29.out hg1 (by intro e; injection e with e; omega))
      clear hs1 hg1 HX29 HR29 HP29 HN29 HH29 HM29 HO29 Hw29
      obtain ⟨ef, e0, e1, e2⟩ := free3 HR30.out
      go_wp2_with fail
      refine (readr_at A n c 1099511627776 tc w30 (by rw [HGtc.out.1]; exact (Hr.out.below Hw30.out (Nat.le_refl _)).more Hw30.out.size) hnc hn (Nat.le_trans HGtc.out.2 (Nat.le_of_eq Hll.out)) (by rw [HGtc.out.1]; exact Hb.out) (by omega)).mono ?_
      rintro e w31 ⟨rfl, hb1⟩
      have HX31 := Lib.hid (block_below HX30.out hb1 (block_lt HX30.out)); have HR31 := Lib.hid (block_below HR30.out hb1 (block_lt HR30.out)); have HP31 := Lib.hid (block_below HP30.out hb1 (block_lt HP30.out)); have HN31 := Lib.hid (block_below HN30.out hb1 (block_lt HN30.out)); have HH31 := Lib.hid (block_below HH30.out hb1 (block_lt HH30.out)); have HM31 := Lib.hid (block_below HM30.out hb1 (block_lt HM30.out)); have HO31 := Lib.hid (own_below HO30.out hb1); have Hw31 := Lib.hid (Hw30.out.trans (hb1.mono Hw30.out.size))
      clear hb1 HX30 HR30 HP30 HN30 HH30 HM30 HO30 Hw30
      clear ef e0 e1 e2
      rw [show Int.toNat 1099511627776 = farN from rfl]
      have HGtd := Lib.hid (good_num HGtc.out farN)
      have hleuk := numRS_le tc farN
      generalize hqtd : (numRS tc farN).1 = td at *
      generalize hquk : (numRS tc farN).2 = uk at *
      have Hvtd := Lib.hid hqtd; have Hvuk := Lib.hid hquk
      clear hqtd hquk
      obtain ⟨ef, e0, e1, e2⟩ := free3 HR31.out
      obtain ⟨mf, m0, m1, m2⟩ := free3 HM31.out
      go_upto_region 19 with fail
      clear ef e0 e1 e2 mf m0 m1 m2
      have h3 := set3 HR31.out (.slice A n c) (.int .i64 (td.at_ : Int)) (.int .i64 td.err)
      have hs3 := h3.1
      have hg3 := h3.2
      clear h3
      generalize ((w31.setCell ⟨gr, 0, none⟩ (.slice A n c)).setCell ⟨gr, 1, none⟩ (.int .i64 (td.at_ : Int))).setCell ⟨gr, 2, none⟩ (.int .i64 td.err) = w32 at *
      have HR32 := Lib.hid hs3
      have HX32 := Lib.hid (block_grown HX31.out hg3 (by intro e; injection e with e; omega)); have HN32 := Lib.hid (block_grown HN31.out hg3 (by intro e; injection e with e; omega)); have HO32 := Lib.hid (HO31.out.kept hg3 (.inr (fun e => by have h1 := (HO31.out.lt _ e).1; have h2 := Hrow.out _ e; omega))); have Hw32 := Lib.hid (Hw31.out.grown hg3 Hw31.out.size (fun k hk => by injection hk with hk; omega))
      have HP32 := Lib.hid (block_grown HP31.out hg3 (by intro e; injection e with e; omega))
      have HH32 := Lib.hid (block_grown HH31.out hg3 (by intro e; injection e with e; omega))
      have HM32 := Lib.hid (block_grown HM31.out hg3 (by intro e; injection e with e; omega))
      clear hs3 hg3 HX31 HR31 HP31 HN31 HH31 HM31 HO31 Hw31
      have hs1 := setm2 HM32.out (.int .u64 (uk : Int))
      have hg1 := grown_set1 w32 gm 2 (.int .u64 (uk : Int))
      generalize w32.setCell ⟨gm, 2, none⟩ (.int .u64 (uk : Int)) = w33 at *
      have HM33 := Lib.hid hs1
      have HX33 := Lib.hid (block_grown HX32.out hg1 (by intro e; injection e with e; omega)); have HN33 := Lib.hid (block_grown HN32.out hg1 (by intro e; injection e with e; omega)); have HO33 := Lib.hid (HO32.out.kept hg1 (.inr (fun e => by have h1 := (HO32.out.lt _ e).1; have h2 := Hrow.out _ e; omega))); have Hw33 := Lib.hid (Hw32.out.grown hg1 Hw32.out.size (fun k hk => by injection hk with hk; omega))
      have HP33 := Lib.hid (block_grown HP32.out hg1 (by intro e; injection e with e; omega))
      have HR33 := Lib.hid (block_grown HR32.out hg1 (by intro e; injection e with e; omega))
      have HH33 := Lib.hid (block_grown HH32.out hg1 (by intro e; injection e with e; omega))
      clear hs1 hg1 HX32 HR32 HP32 HN32 HH32 HM32 HO32 Hw32
      have bak : (ak : Int) ≤ 1125899906842624 := by have : ak ≤ 1125899906842624 := hleak; omega
      have bfk : (fk : Int) ≤ 1 := by omega
      have buk : (uk : Int) ≤ 1099511627776 := by have : uk ≤ 1099511627776 := hleuk; omega
      obtain ⟨mf, m0, m1, m2⟩ := free3 HM33.out
      have y := block_cell HH33.out
      have y8 := y 8; have y9 := y 9; have y10 := y 10
      have yf := block_free HH33.out
      simp at y8 y9 y10
      clear y
      go_wp2
      go_region
      clear mf m0 m1 m2 y8 y9 y10 yf
      have h3 := set3_11 HH33.out (.int .i64 (ak : Int)) (.int .i64 (fk : Int)) (.int .i64 (uk : Int))
      have hs3 := h3.1
      have hg3 := h3.2
      clear h3
      generalize ((w33.setCell ⟨gh, 8, none⟩ (.int .i64 (ak : Int))).setCell ⟨gh, 9, none⟩ (.int .i64 (fk : Int))).setCell ⟨gh, 10, none⟩ (.int .i64 (uk : Int)) = w34a at *
      have hg3d := hgrown_drew hg3
      have hs3d : w34a.drew.heap[gh]? = _ := hs3
      clear hg3 hs3
      generalize w34a.drew = w34 at *
      have HH34 := Lib.hid hs3d
      have HX34 := Lib.hid (block_grown HX33.out hg3d (by intro e; injection e with e; omega)); have HN34 := Lib.hid (block_grown HN33.out hg3d (by intro e; injection e with e; omega)); have HO34 := Lib.hid (HO33.out.kept hg3d (.inr (fun e => by have h1 := (HO33.out.lt _ e).1; have h2 := Hrow.out _ e; omega))); have Hw34 := Lib.hid (Hw33.out.grown hg3d Hw33.out.size (fun k hk => by injection hk with hk; omega))
      have HP34 := Lib.hid (block_grown HP33.out hg3d (by intro e; injection e with e; omega))
      have HR34 := Lib.hid (block_grown HR33.out hg3d (by intro e; injection e with e; omega))
      clear hs3d hg3d HX33 HR33 HP33 HN33 HH33 HM33 HO33 Hw33
      have pl := block_cell HP34.out 11
      have pf := block_free HP34.out
      simp at pl
      have y0 := block_cell HH34.out 0; have y1 := block_cell HH34.out 1; have y2 := block_cell HH34.out 2; have y3 := block_cell HH34.out 3; have y4 := block_cell HH34.out 4; have y5 := block_cell HH34.out 5; have y6 := block_cell HH34.out 6; have y7 := block_cell HH34.out 7; have y8 := block_cell HH34.out 8; have y9 := block_cell HH34.out 9; have y10 := block_cell HH34.out 10
      simp at y0 y1 y2 y3 y4 y5 y6 y7 y8 y9 y10
      have hn16 : n' ≤ 16 := by have := Hn'.out; omega
      have hgn34 : gn + 1 ≤ w34.heap.size := block_lt HN34.out
      obtain ⟨ih, hi, hz0, hz1, hz2⟩ := info_parts info_HeldR
      have HI := Lib.hid (And.intro hi (And.intro hz0 (And.intro hz1 hz2))); clear hi hz0 hz1 hz2
      go_wp2_with (at_builtin; go_must ((refine wpList_append_lit w34 (by rfl) _ _ 24 (by rfl) (gn + 1) 60 ih (.agg #[.int .u8 0, .int .u8 0, .int .u8 0, .int .u8 0, .int .u8 0, .int .u8 0, .int .u8 0, .int .u8 0, .int .i64 0, .int .i64 0, .int .i64 0]) 11 32 Try.underlying24 HI.out rfl (by decide) _ _ _ (by rfl) HO34.out 1 1 #[.int .u8 (nk.x0 : Int), .int .u8 (nk.x1 : Int), .int .u8 (nk.x2 : Int), .int .u8 (nk.x3 : Int), .int .u8 (nk.x4 : Int), .int .u8 (nk.x5 : Int), .int .u8 (nk.x6 : Int), .int .u8 (nk.x7 : Int), .int .i64 (ak : Int), .int .i64 (fk : Int), .int .i64 (uk : Int)] 60 (by simp [Act.eval]) rfl (by simp [Value.oneCell']) (by omega) (by omega) hgn34 ?_; intro v35 w35 ho hb; obtain ⟨A35, c35, rfl⟩ := own_form ho; have HO35 := Lib.hid ho; have HP35 := Lib.hid (block_below HP34.out hb (by omega)); have HX35 := Lib.hid (block_below HX34.out hb (by omega)); have HR35 := Lib.hid (block_below HR34.out hb (by omega)); have HN35 := Lib.hid (block_below HN34.out hb (by omega)); have Hw35 := Lib.hid (Hw34.out.trans (hb.mono (by omega))); clear ho hb pl pf; have pf := block_free HP35.out; have pl := block_cell HP35.out 11; simp at pl)))
      have hg36 := grown_set1 w35 gp 11 (.slice A35 (n' + 1) c35)
      have HP36 := Lib.hid (pu_set11 HP35.out (.slice A35 (n' + 1) c35))
      have HX36 := Lib.hid (block_grown HX35.out hg36 (by intro e; injection e with e; omega)); have HR36 := Lib.hid (block_grown HR35.out hg36 (by intro e; injection e with e; omega)); have HN36 := Lib.hid (block_grown HN35.out hg36 (by intro e; injection e with e; omega)); have Hw36 := Lib.hid (Hw35.out.grown hg36 Hw35.out.size (fun k hk => by injection hk with hk; omega)); have HO36 := Lib.hid (HO35.out.kept hg36 (.inr (fun e => by have := (HO35.out.lt _ e).1; omega)))
      clear hg36 pf pl
      generalize w35.setCell ⟨gp, 11, none⟩ (.slice A35 (n' + 1) c35) = w36 at *
      have Hq2 : Hid (hRS (p5 l) (k + 1) = (td, q.2 ++ [⟨nk, (ak : Int), (fk : Int), (uk : Int)⟩])) := Lib.hid (by
        rw [Hgo.out]; unfold hdRS; rw [Hta.out, Hnk.out, Hvtb.out, Hvak.out, Hvtc.out, Hvfk.out, Hvtd.out, Hvuk.out])
      have HRe : Hid (w36.heap[gr]? = some (.cells #[.slice A n c, .int .i64 ((hRS (p5 l) (k + 1)).1.at_ : Int), .int .i64 (hRS (p5 l) (k + 1)).1.err] 113 (0, 0))) := Lib.hid (by rw [Hq2.out]; exact HR36.out)
      have HOe : Hid (w36.ownsRow (gn + 1) 60 11 (.slice A35 (n' + 1) c35) (n' + 1) (flatH (hRS (p5 l) (k + 1)).2)) := Lib.hid (by rw [Hq2.out]; simp only [flatH_append]; exact HO36.out)
      go_wp2
      go_roundw
      case rel => exact ⟨k + 1, n' + 1, A35, c35, by omega, by go_num, Lib.hid (by have := Hn'.out; omega), HRe, HX36, HP36, HN36, HOe, Hw36⟩
      case measure => simp [intOf]; omega
    · have Hex : Hid (hRS (p5 l) many = hRS (p5 l) k) := Lib.hid (by
        by_cases h2 : k < many
        · have h3 : (hRS (p5 l) k).1.err ≠ 0 := fun e => hgo ⟨h2, e⟩
          have := hRS_stop h3 (many - k)
          rwa [show k + (many - k) = many by omega] at this
        · rw [show k = many by omega])
      have Hpu : Hid (puRS l = ((hRS (p5 l) k).1, ⟨nm, (no : Int), (h0 : Int), (h1 : Int), (hRS (p5 l) k).2⟩)) := Lib.hid (by
        unfold puRS; rw [show manyRS l = many from Hvmany.out, Hnm.out, Hvno.out, Hvh0.out, Hvh1.out, Hex.out])
      have Hdec : Hid (decPu l = if endRS (puRS l).1 ≠ 0 then (endRS (puRS l).1, pu0) else if (puRS l).2.check ≠ 0 then ((puRS l).2.check, pu0) else (0, (puRS l).2)) := Lib.hid rfl
      rw [Hpu.out] at Hdec
      have Hgo := Lib.hid hgo
      clear hgo
      generalize hRS (p5 l) k = q at *
      have hn1000 : n' ≤ 16 := by have := Hn'.out; omega
      have hdd : (k < many ∧ decide ((k : Int) < (many : Int)) = true ∧ (q.1.err == 0) = false) ∨ (¬ k < many ∧ decide ((k : Int) < (many : Int)) = false) := by
        by_cases h2 : k < many
        · exact .inl ⟨h2, decide_eq_true (by omega), by simpa using fun e => Hgo.out ⟨h2, e⟩⟩
        · exact .inr ⟨h2, decide_eq_false (by omega)⟩
      rcases hdd with ⟨hlt, hd1, hd2⟩ | ⟨hlt, hd1⟩
      all_goals
        go_wp2_with fail
        refine (endr_any A n c q.1 wr (by rw [HGk.out.1]; exact Hll.out)).mono ?_
        rintro e w21 ⟨rfl, hb1⟩
        have HX21 := Lib.hid (block_below HX20.out hb1 (block_lt HX20.out)); have HP21 := Lib.hid (block_below HP20.out hb1 (block_lt HP20.out)); have HO21 := Lib.hid (own_below HO20.out hb1); have Hw21 := Lib.hid (Hw20.out.trans (hb1.mono Hw20.out.size))
        clear hb1 ef e0 e1 e2 nf n0 n1 n2 n3
        by_cases hE : endRS q.1 = 0
        · have hd3 : (endRS q.1 != 0) = false := by simp [hE]
          have HE := Lib.hid hE
          clear hE
          have hcap := own_cap HO21.out
          have Hat : Hid (PuV.At ⟨nm, (no : Int), (h0 : Int), (h1 : Int), q.2⟩ A' n' c' w21) := Lib.hid ⟨Rd.of_own HO21.out, hcap, by omega⟩
          have r := block_cell HP21.out
          have r0 := r 0; have r1 := r 1; have r2 := r 2; have r3 := r 3; have r4 := r 4; have r5 := r 5; have r6 := r 6; have r7 := r 7; have r8 := r 8; have r9 := r 9; have r10 := r 10; have r11 := r 11
          have rf := block_free HP21.out
          simp at r0 r1 r2 r3 r4 r5 r6 r7 r8 r9 r10 r11
          clear r
          go_wp2_with fail
          refine (checkr_any (⟨nm, (no : Int), (h0 : Int), (h1 : Int), q.2⟩ : Pu) A' n' c' w21 Hat.out).mono ?_
          rintro e w22 ⟨rfl, hb22⟩
          have HX22 := Lib.hid (block_below HX21.out hb22 (block_lt HX21.out)); have HP22 := Lib.hid (block_below HP21.out hb22 (block_lt HP21.out)); have HO22 := Lib.hid (own_below HO21.out hb22); have Hw22 := Lib.hid (Hw21.out.trans (hb22.mono Hw21.out.size))
          clear hb22 r0 r1 r2 r3 r4 r5 r6 r7 r8 r9 r10 r11 rf
          generalize hck : (⟨nm, (no : Int), (h0 : Int), (h1 : Int), q.2⟩ : Pu).check = ck at *
          by_cases hC : ck = 0
          · have hd4 : (ck != 0) = false := by simp [hC]
            have HRr : Hid (decPu l = (0, ⟨nm, (no : Int), (h0 : Int), (h1 : Int), q.2⟩)) := Lib.hid (by rw [Hdec.out, if_neg (by simpa using HE.out), if_neg (by simpa using hC)])
            clear hC hck
            have r := block_cell HP22.out
            have r0 := r 0; have r1 := r 1; have r2 := r 2; have r3 := r 3; have r4 := r 4; have r5 := r 5; have r6 := r 6; have r7 := r 7; have r8 := r 8; have r9 := r 9; have r10 := r 10; have r11 := r 11
            have rf := block_free HP22.out
            simp at r0 r1 r2 r3 r4 r5 r6 r7 r8 r9 r10 r11
            clear r
            have HS12 := Lib.hid (set12v HX22.out rfl nm (no : Int) (h0 : Int) (h1 : Int) A' n' c')
            have z := block_cell HX22.out
            have z0 := z 0; have z1 := z 1; have z2 := z 2; have z3 := z 3; have z4 := z 4; have z5 := z 5; have z6 := z 6; have z7 := z 7; have z8 := z 8; have z9 := z 9; have z10 := z 10; have z11 := z 11
            have zf := block_free HX22.out
            simp at z0 z1 z2 z3 z4 z5 z6 z7 z8 z9 z10 z11
            clear z
            go_wp2
            clear z0 z1 z2 z3 z4 z5 z6 z7 z8 z9 z10 z11 zf r0 r1 r2 r3 r4 r5 r6 r7 r8 r9 r10 r11 rf
            have hs1 := HS12.out.1
            have hs2 := HS12.out.2
            generalize (((((((((((w22.setCell ⟨w.heap.size, 0, none⟩ (.int .u8 (nm.x0 : Int))).setCell ⟨w.heap.size, 1, none⟩ (.int .u8 (nm.x1 : Int))).setCell ⟨w.heap.size, 2, none⟩ (.int .u8 (nm.x2 : Int))).setCell ⟨w.heap.size, 3, none⟩ (.int .u8 (nm.x3 : Int))).setCell ⟨w.heap.size, 4, none⟩ (.int .u8 (nm.x4 : Int))).setCell ⟨w.heap.size, 5, none⟩ (.int .u8 (nm.x5 : Int))).setCell ⟨w.heap.size, 6, none⟩ (.int .u8 (nm.x6 : Int))).setCell ⟨w.heap.size, 7, none⟩ (.int .u8 (nm.x7 : Int))).setCell ⟨w.heap.size, 8, none⟩ (.int .i64 (no : Int))).setCell ⟨w.heap.size, 9, none⟩ (.int .i64 (h0 : Int))).setCell ⟨w.heap.size, 10, none⟩ (.int .i64 (h1 : Int))).setCell ⟨w.heap.size, 11, none⟩ (.slice A' n' c') = w24 at *
            have HX24 := Lib.hid hs1
            have HO24 := Lib.hid (HO22.out.kept hs2 (.inr (fun e => by have := (HO22.out.lt _ e).1; omega)))
            have Hw24 := Lib.hid (Hw22.out.grown hs2 Hw22.out.size (fun k hk => by injection hk with hk; omega))
            clear hs1 hs2 HS12
            have r := block_cell HX24.out
            have r0 := r 0; have r1 := r 1; have r2 := r 2; have r3 := r 3; have r4 := r 4; have r5 := r 5; have r6 := r 6; have r7 := r 7; have r8 := r 8; have r9 := r 9; have r10 := r 10; have r11 := r 11
            have rf := block_free HX24.out
            simp at r0 r1 r2 r3 r4 r5 r6 r7 r8 r9 r10 r11
            clear r
            refine bodyPost_ret (v := .tuple #[.agg #[.int .u8 (nm.x0 : Int), .int .u8 (nm.x1 : Int), .int .u8 (nm.x2 : Int), .int .u8 (nm.x3 : Int), .int .u8 (nm.x4 : Int), .int .u8 (nm.x5 : Int), .int .u8 (nm.x6 : Int), .int .u8 (nm.x7 : Int), .int .i64 (no : Int), .int .i64 (h0 : Int), .int .i64 (h1 : Int), .slice A' n' c'], .int .i64 0]) (by simp [results, Try.results35, go_sem, r0, r1, r2, r3, r4, r5, r6, r7, r8, r9, r10, r11]) rfl ?_
            rw [HRr.out]
            exact ⟨A', n', c', rfl, pown_down HO24.out (by omega), Hw24.out⟩
          · have hd4 : (ck != 0) = true := by simp [hC]
            have HRr : Hid (decPu l = (ck, pu0)) := Lib.hid (by rw [Hdec.out, if_neg (by simpa using HE.out), if_pos hC])
            clear hC hck
            have r := block_cell HX22.out
            have r0 := r 0; have r1 := r 1; have r2 := r 2; have r3 := r 3; have r4 := r 4; have r5 := r 5; have r6 := r 6; have r7 := r 7; have r8 := r 8; have r9 := r 9; have r10 := r 10; have r11 := r 11
            have rf := block_free HX22.out
            simp at r0 r1 r2 r3 r4 r5 r6 r7 r8 r9 r10 r11
            clear r
            have Hz12 := Lib.hid (set12z (w := w22) (g := w.heap.size) HX22.out rfl)
            go_wp2
            clear r0 r1 r2 r3 r4 r5 r6 r7 r8 r9 r10 r11 rf
            have hz1 := Hz12.out.1
            have hz2 := Hz12.out.2
            generalize (((((((((((w22.setCell ⟨w.heap.size, 0, none⟩ (.int .u8 0)).setCell ⟨w.heap.size, 1, none⟩ (.int .u8 0)).setCell ⟨w.heap.size, 2, none⟩ (.int .u8 0)).setCell ⟨w.heap.size, 3, none⟩ (.int .u8 0)).setCell ⟨w.heap.size, 4, none⟩ (.int .u8 0)).setCell ⟨w.heap.size, 5, none⟩ (.int .u8 0)).setCell ⟨w.heap.size, 6, none⟩ (.int .u8 0)).setCell ⟨w.heap.size, 7, none⟩ (.int .u8 0)).setCell ⟨w.heap.size, 8, none⟩ (.int .i64 0)).setCell ⟨w.heap.size, 9, none⟩ (.int .i64 0)).setCell ⟨w.heap.size, 10, none⟩ (.int .i64 0)).setCell ⟨w.heap.size, 11, none⟩ (.slice none 0 0) = w30 at *
            have Hw30 := Lib.hid (Hw22.out.grown hz2 Hw22.out.size (fun k hk => by injection hk with hk; omega))
            have HX30 := Lib.hid hz1
            clear hz1 hz2 Hz12
            have r := block_cell HX30.out
            have r0 := r 0; have r1 := r 1; have r2 := r 2; have r3 := r 3; have r4 := r 4; have r5 := r 5; have r6 := r 6; have r7 := r 7; have r8 := r 8; have r9 := r 9; have r10 := r 10; have r11 := r 11
            have rf := block_free HX30.out
            simp at r0 r1 r2 r3 r4 r5 r6 r7 r8 r9 r10 r11
            clear r
            refine bodyPost_ret (v := .tuple #[.agg #[.int .u8 0, .int .u8 0, .int .u8 0, .int .u8 0, .int .u8 0, .int .u8 0, .int .u8 0, .int .u8 0, .int .i64 0, .int .i64 0, .int .i64 0, .slice none 0 0], .int .i64 ck]) (by simp [results, Try.results35, go_sem, r0, r1, r2, r3, r4, r5, r6, r7, r8, r9, r10, r11]) rfl (givesChR_no HRr.out Hw30.out)
        · have hd3 : (endRS q.1 != 0) = true := by simp [hE]
          have HRr : Hid (decPu l = (endRS q.1, pu0)) := Lib.hid (by rw [Hdec.out, if_pos hE])
          clear hE
          have r := block_cell HX21.out
          have r0 := r 0; have r1 := r 1; have r2 := r 2; have r3 := r 3; have r4 := r 4; have r5 := r 5; have r6 := r 6; have r7 := r 7; have r8 := r 8; have r9 := r 9; have r10 := r 10; have r11 := r 11
          have rf := block_free HX21.out
          simp at r0 r1 r2 r3 r4 r5 r6 r7 r8 r9 r10 r11
          clear r
          have Hz12 := Lib.hid (set12z (w := w21) (g := w.heap.size) HX21.out rfl)
          go_wp2
          clear r0 r1 r2 r3 r4 r5 r6 r7 r8 r9 r10 r11 rf
          have hz1 := Hz12.out.1
          have hz2 := Hz12.out.2
          generalize (((((((((((w21.setCell ⟨w.heap.size, 0, none⟩ (.int .u8 0)).setCell ⟨w.heap.size, 1, none⟩ (.int .u8 0)).setCell ⟨w.heap.size, 2, none⟩ (.int .u8 0)).setCell ⟨w.heap.size, 3, none⟩ (.int .u8 0)).setCell ⟨w.heap.size, 4, none⟩ (.int .u8 0)).setCell ⟨w.heap.size, 5, none⟩ (.int .u8 0)).setCell ⟨w.heap.size, 6, none⟩ (.int .u8 0)).setCell ⟨w.heap.size, 7, none⟩ (.int .u8 0)).setCell ⟨w.heap.size, 8, none⟩ (.int .i64 0)).setCell ⟨w.heap.size, 9, none⟩ (.int .i64 0)).setCell ⟨w.heap.size, 10, none⟩ (.int .i64 0)).setCell ⟨w.heap.size, 11, none⟩ (.slice none 0 0) = w30 at *
          have Hw30 := Lib.hid (Hw21.out.grown hz2 Hw21.out.size (fun k hk => by injection hk with hk; omega))
          have HX30 := Lib.hid hz1
          clear hz1 hz2 Hz12
          have r := block_cell HX30.out
          have r0 := r 0; have r1 := r 1; have r2 := r 2; have r3 := r 3; have r4 := r 4; have r5 := r 5; have r6 := r 6; have r7 := r 7; have r8 := r 8; have r9 := r 9; have r10 := r 10; have r11 := r 11
          have rf := block_free HX30.out
          simp at r0 r1 r2 r3 r4 r5 r6 r7 r8 r9 r10 r11
          clear r
          refine bodyPost_ret (v := .tuple #[.agg #[.int .u8 0, .int .u8 0, .int .u8 0, .int .u8 0, .int .u8 0, .int .u8 0, .int .u8 0, .int .u8 0, .int .i64 0, .int .i64 0, .int .i64 0, .slice none 0 0], .int .i64 (endRS q.1)]) (by simp [results, Try.results35, go_sem, r0, r1, r2, r3, r4, r5, r6, r7, r8, r9, r10, r11]) rfl (givesChR_no HRr.out Hw30.out)
end Go.Proofs.Ytjiecnoplnaahaa
