/- The walk of a purse's Decode. Condition: a bound on how many bytes. -/
import Derived.Test.YtjiecnoplnaahaaJoinC
import Derived.Test.YtjiecnoplnaahaaPuT0
import Derived.Test.YtjiecnoplnaahaaJoinA
import Derived.Test.YtjiecnoplnaahaaJoinB
import Derived.Test.YtjiecnoplnaahaaInv
namespace Go.Proofs.Ytjiecnoplnaahaa
open Go.RowKit Go.Lib



theorem set12z {w : World} {g : Nat} {T : TypeId} {cs : Array Value} (h : w.heap[g]? = some (.cells cs T (0, 0))) (hs : cs.size = 12) :
    ((((((((((((w.setCell ⟨g, 0, none⟩ (.int .u8 0)).setCell ⟨g, 1, none⟩ (.int .u8 0)).setCell ⟨g, 2, none⟩ (.int .u8 0)).setCell ⟨g, 3, none⟩ (.int .u8 0)).setCell ⟨g, 4, none⟩ (.int .u8 0)).setCell ⟨g, 5, none⟩ (.int .u8 0)).setCell ⟨g, 6, none⟩ (.int .u8 0)).setCell ⟨g, 7, none⟩ (.int .u8 0)).setCell ⟨g, 8, none⟩ (.int .i64 0)).setCell ⟨g, 9, none⟩ (.int .i64 0)).setCell ⟨g, 10, none⟩ (.int .i64 0)).setCell ⟨g, 11, none⟩ (.slice none 0 0)).heap[g]? = some (.cells #[.int .u8 0, .int .u8 0, .int .u8 0, .int .u8 0, .int .u8 0, .int .u8 0, .int .u8 0, .int .u8 0, .int .i64 0, .int .i64 0, .int .i64 0, .slice none 0 0] T (0, 0)) ∧ w.grownBy ((((((((((((w.setCell ⟨g, 0, none⟩ (.int .u8 0)).setCell ⟨g, 1, none⟩ (.int .u8 0)).setCell ⟨g, 2, none⟩ (.int .u8 0)).setCell ⟨g, 3, none⟩ (.int .u8 0)).setCell ⟨g, 4, none⟩ (.int .u8 0)).setCell ⟨g, 5, none⟩ (.int .u8 0)).setCell ⟨g, 6, none⟩ (.int .u8 0)).setCell ⟨g, 7, none⟩ (.int .u8 0)).setCell ⟨g, 8, none⟩ (.int .i64 0)).setCell ⟨g, 9, none⟩ (.int .i64 0)).setCell ⟨g, 10, none⟩ (.int .i64 0)).setCell ⟨g, 11, none⟩ (.slice none 0 0)) (some g) := set12 h hs pu0 none 0 0
theorem set12v {w : World} {g : Nat} {T : TypeId} {cs : Array Value} (h : w.heap[g]? = some (.cells cs T (0, 0))) (hs : cs.size = 12) (d : D8) (a b e : Int) (A : Option Addr) (n c : Nat) :
    ((((((((((((w.setCell ⟨g, 0, none⟩ (.int .u8 (d.x0 : Int))).setCell ⟨g, 1, none⟩ (.int .u8 (d.x1 : Int))).setCell ⟨g, 2, none⟩ (.int .u8 (d.x2 : Int))).setCell ⟨g, 3, none⟩ (.int .u8 (d.x3 : Int))).setCell ⟨g, 4, none⟩ (.int .u8 (d.x4 : Int))).setCell ⟨g, 5, none⟩ (.int .u8 (d.x5 : Int))).setCell ⟨g, 6, none⟩ (.int .u8 (d.x6 : Int))).setCell ⟨g, 7, none⟩ (.int .u8 (d.x7 : Int))).setCell ⟨g, 8, none⟩ (.int .i64 a)).setCell ⟨g, 9, none⟩ (.int .i64 b)).setCell ⟨g, 10, none⟩ (.int .i64 e)).setCell ⟨g, 11, none⟩ (.slice A n c)).heap[g]? = some (.cells #[.int .u8 (d.x0 : Int), .int .u8 (d.x1 : Int), .int .u8 (d.x2 : Int), .int .u8 (d.x3 : Int), .int .u8 (d.x4 : Int), .int .u8 (d.x5 : Int), .int .u8 (d.x6 : Int), .int .u8 (d.x7 : Int), .int .i64 a, .int .i64 b, .int .i64 e, .slice A n c] T (0, 0)) ∧ w.grownBy ((((((((((((w.setCell ⟨g, 0, none⟩ (.int .u8 (d.x0 : Int))).setCell ⟨g, 1, none⟩ (.int .u8 (d.x1 : Int))).setCell ⟨g, 2, none⟩ (.int .u8 (d.x2 : Int))).setCell ⟨g, 3, none⟩ (.int .u8 (d.x3 : Int))).setCell ⟨g, 4, none⟩ (.int .u8 (d.x4 : Int))).setCell ⟨g, 5, none⟩ (.int .u8 (d.x5 : Int))).setCell ⟨g, 6, none⟩ (.int .u8 (d.x6 : Int))).setCell ⟨g, 7, none⟩ (.int .u8 (d.x7 : Int))).setCell ⟨g, 8, none⟩ (.int .i64 a)).setCell ⟨g, 9, none⟩ (.int .i64 b)).setCell ⟨g, 10, none⟩ (.int .i64 e)).setCell ⟨g, 11, none⟩ (.slice A n c)) (some g) := set12 h hs ⟨d, a, b, e, []⟩ A n c
theorem two_block {w w' : World} {g b k : Nat} {o : Obj} (h : Two w w' g b) (hx : w.heap[k]? = some o) (hg : k ≠ g) (hb : k ≠ b) : w'.heap[k]? = some o := (h.block k (block_lt hx) hg hb).trans hx
theorem own_two {w w' : World} {base : Nat} {e : TypeId} {sz n : Nat} {v : Value} {xs : List Value} {g b : Nat} (h : w.ownsRow base e sz v n xs) (ht : Two w w' g b) (hg : g < base) (hb : b < base) : w'.ownsRow base e sz v n xs := by
  refine ⟨h.1, ?_⟩
  rcases h.2 with h2 | ⟨k, cap, cur, h1, h2, h3, h4⟩
  · exact .inl h2
  · exact .inr ⟨k, cap, cur, h1, h2, (ht.block k (block_lt h3) (by omega) (by omega)).trans h3, h4⟩
theorem two_zero (w : World) (x g b : Nat) (o : Obj) (hx : w.heap[x]? = some o) (hb : x < b) (hg : x < g) {w' : World} (h : Two w w' g b) : w'.heap[x]? = some o := two_block h hx (by omega) (by omega)
theorem pu_set8 {w : World} {g : Nat} {T : TypeId} {x0 x1 x2 x3 x4 x5 x6 x7 x8 x9 x10 x11 : Value} (h : w.heap[g]? = some (.cells #[x0, x1, x2, x3, x4, x5, x6, x7, x8, x9, x10, x11] T (0, 0))) (v : Value) :
    (w.setCell ⟨g, 8, none⟩ v).heap[g]? = some (.cells #[x0, x1, x2, x3, x4, x5, x6, x7, v, x9, x10, x11] T (0, 0)) := by
  simpa using Joins.block_setCell (i := 8) h v
theorem pu_set9 {w : World} {g : Nat} {T : TypeId} {x0 x1 x2 x3 x4 x5 x6 x7 x8 x9 x10 x11 : Value} (h : w.heap[g]? = some (.cells #[x0, x1, x2, x3, x4, x5, x6, x7, x8, x9, x10, x11] T (0, 0))) (v : Value) :
    (w.setCell ⟨g, 9, none⟩ v).heap[g]? = some (.cells #[x0, x1, x2, x3, x4, x5, x6, x7, x8, v, x10, x11] T (0, 0)) := by
  simpa using Joins.block_setCell (i := 9) h v
theorem pu_set10 {w : World} {g : Nat} {T : TypeId} {x0 x1 x2 x3 x4 x5 x6 x7 x8 x9 x10 x11 : Value} (h : w.heap[g]? = some (.cells #[x0, x1, x2, x3, x4, x5, x6, x7, x8, x9, x10, x11] T (0, 0))) (v : Value) :
    (w.setCell ⟨g, 10, none⟩ v).heap[g]? = some (.cells #[x0, x1, x2, x3, x4, x5, x6, x7, x8, x9, v, x11] T (0, 0)) := by
  simpa using Joins.block_setCell (i := 10) h v
theorem pu_set11 {w : World} {g : Nat} {T : TypeId} {x0 x1 x2 x3 x4 x5 x6 x7 x8 x9 x10 x11 : Value} (h : w.heap[g]? = some (.cells #[x0, x1, x2, x3, x4, x5, x6, x7, x8, x9, x10, x11] T (0, 0))) (v : Value) :
    (w.setCell ⟨g, 11, none⟩ v).heap[g]? = some (.cells #[x0, x1, x2, x3, x4, x5, x6, x7, x8, x9, x10, v] T (0, 0)) := by
  simpa using Joins.block_setCell (i := 11) h v
theorem hd_set9 {w : World} {g : Nat} {T : TypeId} {x0 x1 x2 x3 x4 x5 x6 x7 x8 x9 x10 : Value} (h : w.heap[g]? = some (.cells #[x0, x1, x2, x3, x4, x5, x6, x7, x8, x9, x10] T (0, 0))) (v : Value) :
    (w.setCell ⟨g, 9, none⟩ v).heap[g]? = some (.cells #[x0, x1, x2, x3, x4, x5, x6, x7, x8, v, x10] T (0, 0)) := by
  simpa using Joins.block_setCell (i := 9) h v
theorem hd_set10 {w : World} {g : Nat} {T : TypeId} {x0 x1 x2 x3 x4 x5 x6 x7 x8 x9 x10 : Value} (h : w.heap[g]? = some (.cells #[x0, x1, x2, x3, x4, x5, x6, x7, x8, x9, x10] T (0, 0))) (v : Value) :
    (w.setCell ⟨g, 10, none⟩ v).heap[g]? = some (.cells #[x0, x1, x2, x3, x4, x5, x6, x7, x8, x9, v] T (0, 0)) := by
  simpa using Joins.block_setCell (i := 10) h v
theorem src_below' {w w' : World} {g b B : Nat} {t : RS} (h : Src w g b t) (hb : Below B w w') (hB : g < B) : Src w' g b t := by
  obtain ⟨h1, h2, sr, h3, h4⟩ := h
  exact ⟨h1, block_below h2 hb hB, sr, h3.below hb (by omega), h4⟩
set_option maxRecDepth 100000 in
set_option maxHeartbeats 4000000 in
theorem pdec_any (A : Option Addr) (n c : Nat) (l : List Nat) (w : World) (hr : Rd w w.heap.size 1 A n (bv l)) (hn : n ≤ 1000000000) (hb : ∀ x ∈ l, x < 256) :
    Calls Try.prog 34 #[.slice A n c] w (GivesCh (decPu l) w) := by
  have Hr := Lib.hid hr; have Hb := Lib.hid hb
  have HX0 := Lib.hid (heap_alloc_new w (.cells #[.int .u8 0, .int .u8 0, .int .u8 0, .int .u8 0, .int .u8 0, .int .u8 0, .int .u8 0, .int .u8 0, .int .i64 0, .int .i64 0, .int .i64 0, .slice none 0 0] 32))
  have Hw0 := Lib.hid (below_one w (.cells #[.int .u8 0, .int .u8 0, .int .u8 0, .int .u8 0, .int .u8 0, .int .u8 0, .int .u8 0, .int .u8 0, .int .i64 0, .int .i64 0, .int .i64 0, .slice none 0 0] 32))
  clear hr hb
  go_enter Try.func34, Try.ntmps34
  go_wp2_with fail
  refine (newReader_any A n c l _ (Hr.out.up Hw0.out (Nat.le_refl _)) hn Hb.out).mono ?_
  rintro e w1 ⟨b, rfl, hr1, hb0, hb1⟩
  have hxb : w.heap.size < b := by simp at hb0; omega
  have HX1 := Lib.hid (block_below HX0.out hb1 (by simp))
  have Hw1 := Lib.hid (Hw0.out.trans (hb1.mono (by simp)))
  have Hr1 := Lib.hid hr1
  have hbl := hr1.lt
  clear hr1 hb0 hb1 HX0 Hw0
  go_upto_region 2 with fail
  have HS2 := Lib.hid (show Src (w1.alloc (.cells #[.pointer (some ⟨b, 0, none⟩), .int .i64 0] 110)) w1.heap.size b ⟨l, 0, 0⟩ from ⟨hbl, heap_alloc_new w1 _, ⟨l, 0, 0⟩, Hr1.out.below (h_one w1 _) hbl, fun _ => rfl⟩)
  have HX2 := Lib.hid (block_alloc HX1.out (.cells #[.pointer (some ⟨b, 0, none⟩), .int .i64 0] 110))
  have Hw2 := Lib.hid (Hw1.out.alloc Hw1.out.size (.cells #[.pointer (some ⟨b, 0, none⟩), .int .i64 0] 110))
  generalize w1.alloc (.cells #[.pointer (some ⟨b, 0, none⟩), .int .i64 0] 110) = w2 at *
  generalize w1.heap.size = g at *
  have hxg : w.heap.size < g := by omega
  clear HX1 Hw1 Hr1
  go_wp2_with fail
  refine (srcname_any g b _ w2 HS2.out).mono ?_
  rintro e w3 ⟨rfl, hs, ht⟩
  have HS3 : Hid (Src w3 g b (p1 l)) := Lib.hid hs
  have HX3 := Lib.hid (two_block ht HX2.out (by omega) (by omega)); have Hw3 := Lib.hid (Hw2.out.trans (ht.toBelow Hw2.out.size (by omega) (by omega)))
  clear hs ht
  go_wp2_with fail
  refine (srcnum_any g b _ 1099511627776 w3 HS3.out (by omega) (by omega)).mono ?_
  rintro e w4 ⟨rfl, hs, ht⟩
  have HS4 : Hid (Src w4 g b (p2 l)) := Lib.hid hs
  have HX4 := Lib.hid (two_block ht HX3.out (by omega) (by omega)); have Hw4 := Lib.hid (Hw3.out.trans (ht.toBelow Hw3.out.size (by omega) (by omega)))
  clear hs ht
  generalize hnm : (nameRS ⟨l, 0, 0⟩).2 = nm at *
  have hno0 : (numRS (p1 l) (Int.toNat 1099511627776)).2 = (numRS (p1 l) farN).2 := rfl
  rw [hno0]
  generalize hno : (numRS (p1 l) farN).2 = no at *
  have Hnm := Lib.hid hnm; have Hno := Lib.hid hno
  clear hnm hno hno0
  go_upto_region 3 with fail
  have HP5 := Lib.hid (heap_alloc_new w4 (.cells #[.int .u8 (nm.x0 : Int), .int .u8 (nm.x1 : Int), .int .u8 (nm.x2 : Int), .int .u8 (nm.x3 : Int), .int .u8 (nm.x4 : Int), .int .u8 (nm.x5 : Int), .int .u8 (nm.x6 : Int), .int .u8 (nm.x7 : Int), .int .i64 (no : Int), .int .i64 0, .int .i64 0, .slice none 0 0] 32))
  have HX5 := Lib.hid (block_alloc HX4.out (.cells #[.int .u8 (nm.x0 : Int), .int .u8 (nm.x1 : Int), .int .u8 (nm.x2 : Int), .int .u8 (nm.x3 : Int), .int .u8 (nm.x4 : Int), .int .u8 (nm.x5 : Int), .int .u8 (nm.x6 : Int), .int .u8 (nm.x7 : Int), .int .i64 (no : Int), .int .i64 0, .int .i64 0, .slice none 0 0] 32))
  have HS5 := Lib.hid (HS4.out.below (h_one w4 (.cells #[.int .u8 (nm.x0 : Int), .int .u8 (nm.x1 : Int), .int .u8 (nm.x2 : Int), .int .u8 (nm.x3 : Int), .int .u8 (nm.x4 : Int), .int .u8 (nm.x5 : Int), .int .u8 (nm.x6 : Int), .int .u8 (nm.x7 : Int), .int .i64 (no : Int), .int .i64 0, .int .i64 0, .slice none 0 0] 32)))
  have Hw5 := Lib.hid (Hw4.out.alloc Hw4.out.size (.cells #[.int .u8 (nm.x0 : Int), .int .u8 (nm.x1 : Int), .int .u8 (nm.x2 : Int), .int .u8 (nm.x3 : Int), .int .u8 (nm.x4 : Int), .int .u8 (nm.x5 : Int), .int .u8 (nm.x6 : Int), .int .u8 (nm.x7 : Int), .int .i64 (no : Int), .int .i64 0, .int .i64 0, .slice none 0 0] 32))
  have hgp : g < w4.heap.size := block_lt HS4.out.block
  have hbg : b < g := HS4.out.1
  generalize w4.alloc (.cells #[.int .u8 (nm.x0 : Int), .int .u8 (nm.x1 : Int), .int .u8 (nm.x2 : Int), .int .u8 (nm.x3 : Int), .int .u8 (nm.x4 : Int), .int .u8 (nm.x5 : Int), .int .u8 (nm.x6 : Int), .int .u8 (nm.x7 : Int), .int .i64 (no : Int), .int .i64 0, .int .i64 0, .slice none 0 0] 32) = w5 at *
  generalize w4.heap.size = gp at *
  clear HX4 Hw4 HS4 HX3 Hw3 HS3 HX2 Hw2 HS2
  go_wp2_with fail
  refine (srcnum_any g b _ 1125899906842624 w5 HS5.out (by omega) (by omega)).mono ?_
  rintro e w6 ⟨rfl, hs, ht⟩
  have HS6 : Hid (Src w6 g b (p3 l)) := Lib.hid hs
  have HX6 := Lib.hid (two_block ht HX5.out (by omega) (by omega)); have HP6 := Lib.hid (two_block ht HP5.out (by omega) (by omega)); have Hw6 := Lib.hid (Hw5.out.trans (ht.toBelow Hw5.out.size (by omega) (by omega)))
  clear hs ht
  rw [show (numRS (p2 l) (Int.toNat 1125899906842624)).2 = (numRS (p2 l) mostN).2 from rfl]
  generalize hh0 : (numRS (p2 l) mostN).2 = h0 at *
  have Hh0 := Lib.hid hh0
  clear hh0
  have pf := block_free HP6.out
  have q9 := block_cell HP6.out 9
  simp at q9
  go_upto_region 4 with fail
  have HP7 := Lib.hid (pu_set9 HP6.out (.int .i64 (h0 : Int)))
  have hg7 := grown_set1 w6 gp 9 (.int .i64 (h0 : Int))
  have HS7 := Lib.hid (src_grown HS6.out hg7 hgp); have HX7 := Lib.hid (block_grown HX6.out hg7 (by intro e; injection e with e; omega)); have Hw7 := Lib.hid (Hw6.out.grown hg7 Hw6.out.size (fun k hk => by injection hk with hk; omega))
  clear hg7 pf q9 HX6 HP6 Hw6 HS6
  generalize w6.setCell ⟨gp, 9, none⟩ (.int .i64 (h0 : Int)) = w7 at *
  go_wp2_with fail
  refine (srcnum_any g b _ 1125899906842624 w7 HS7.out (by omega) (by omega)).mono ?_
  rintro e w8 ⟨rfl, hs, ht⟩
  have HS8 : Hid (Src w8 g b (p4 l)) := Lib.hid hs
  have HX8 := Lib.hid (two_block ht HX7.out (by omega) (by omega)); have HP8 := Lib.hid (two_block ht HP7.out (by omega) (by omega)); have Hw8 := Lib.hid (Hw7.out.trans (ht.toBelow Hw7.out.size (by omega) (by omega)))
  clear hs ht
  rw [show (numRS (p3 l) (Int.toNat 1125899906842624)).2 = (numRS (p3 l) mostN).2 from rfl]
  generalize hh1 : (numRS (p3 l) mostN).2 = h1 at *
  have Hh1 := Lib.hid hh1
  clear hh1
  have pf := block_free HP8.out
  have q9 := block_cell HP8.out 10
  simp at q9
  go_upto_region 5 with fail
  have HP9 := Lib.hid (pu_set10 HP8.out (.int .i64 (h1 : Int)))
  have hg9 := grown_set1 w8 gp 10 (.int .i64 (h1 : Int))
  have HS9 := Lib.hid (src_grown HS8.out hg9 hgp); have HX9 := Lib.hid (block_grown HX8.out hg9 (by intro e; injection e with e; omega)); have Hw9 := Lib.hid (Hw8.out.grown hg9 Hw8.out.size (fun k hk => by injection hk with hk; omega))
  clear hg9 pf q9 HX8 HP8 Hw8 HS8
  generalize w8.setCell ⟨gp, 10, none⟩ (.int .i64 (h1 : Int)) = w9 at *
  go_wp2_with fail
  refine (srcnum_any g b _ 16 w9 HS9.out (by omega) (by omega)).mono ?_
  rintro e w10 ⟨rfl, hs, ht⟩
  have HS10 : Hid (Src w10 g b (p5 l)) := Lib.hid hs
  have HX10 := Lib.hid (two_block ht HX9.out (by omega) (by omega)); have HP10 := Lib.hid (two_block ht HP9.out (by omega) (by omega)); have Hw10 := Lib.hid (Hw9.out.trans (ht.toBelow Hw9.out.size (by omega) (by omega)))
  clear hs ht
  have hm16 := numRS_le (p4 l) 16
  rw [show (numRS (p4 l) (Int.toNat 16)).2 = manyRS l from rfl]
  rw [show (numRS (p4 l) 16).2 = manyRS l from rfl] at hm16
  generalize hmany : manyRS l = many at *
  have Hmany := Lib.hid hmany
  clear hmany
  have hmi : (many : Int) ≤ 16 := by omega
  clear HX9 HP9 Hw9 HS9 HX7 HP7 Hw7 HS7 HX5 HP5 Hw5 HS5
  go_wp2
  go_loopw [7] (fun i wr => ∃ (k n' : Nat) (A' : Option Addr) (c' : Nat), k ≤ many ∧ i = .int .i64 (k : Int) ∧ Hid (n' ≤ k) ∧ Hid (Src wr g b (hRS (p5 l) k).1) ∧ Hid (wr.heap[w.heap.size]? = some (.cells #[.int .u8 0, .int .u8 0, .int .u8 0, .int .u8 0, .int .u8 0, .int .u8 0, .int .u8 0, .int .u8 0, .int .i64 0, .int .i64 0, .int .i64 0, .slice none 0 0] 32 (0, 0))) ∧ Hid (wr.heap[gp]? = some (.cells #[.int .u8 (nm.x0 : Int), .int .u8 (nm.x1 : Int), .int .u8 (nm.x2 : Int), .int .u8 (nm.x3 : Int), .int .u8 (nm.x4 : Int), .int .u8 (nm.x5 : Int), .int .u8 (nm.x6 : Int), .int .u8 (nm.x7 : Int), .int .i64 (no : Int), .int .i64 (h0 : Int), .int .i64 (h1 : Int), .slice A' n' c'] 32 (0, 0))) ∧
    Hid (wr.ownsRow (gp + 1) 56 11 (.slice A' n' c') n' (flatH (hRS (p5 l) k).2)) ∧ Hid (Below w.heap.size w wr)) (fun i _ => many - (intOf i).toNat)
  case atStart => exact ⟨0, 0, none, 0, by omega, rfl, Lib.hid (by omega), HS10, HX10, HP10, Lib.hid (World.ownsRow_nil _ _ _ _), Hw10⟩
  case round =>
    obtain ⟨k, n', A', c', hk, rfl, Hn', HSk, HXk, HPk, HOk, Hwk⟩ := hrel
    have s1 := block_cell HSk.out.block 1
    simp at s1
    by_cases hgo : k < many ∧ (hRS (p5 l) k).1.err = 0
    · obtain ⟨hlt, he⟩ := hgo
      have hd1 : decide ((k : Int) < (many : Int)) = true := decide_eq_true (by omega)
      have hd2 : ((hRS (p5 l) k).1.err == 0) = true := by simp [he]
      have Hgo := Lib.hid (hRS_go he)
      clear he
      generalize hRS (p5 l) k = q at *
      go_wp2_with fail
      refine (srcname_any g b _ wr HSk.out).mono ?_
      rintro e w11 ⟨rfl, hs, ht⟩
      have HS11 := Lib.hid hs
      have HX11 := Lib.hid (two_block ht HXk.out (by omega) (by omega)); have HP11 := Lib.hid (two_block ht HPk.out (by omega) (by omega)); have Hw11 := Lib.hid (Hwk.out.trans (ht.toBelow Hwk.out.size (by omega) (by omega))); have HO11 := Lib.hid (own_two HOk.out ht (by omega) (by omega))
      clear hs ht s1
      go_wp2_with fail
      refine (srcnum_any g b _ 1125899906842624 w11 HS11.out (by omega) (by omega)).mono ?_
      rintro e w12 ⟨rfl, hs, ht⟩
      have HS12 := Lib.hid hs
      have HX12 := Lib.hid (two_block ht HX11.out (by omega) (by omega)); have HP12 := Lib.hid (two_block ht HP11.out (by omega) (by omega)); have Hw12 := Lib.hid (Hw11.out.trans (ht.toBelow Hw11.out.size (by omega) (by omega))); have HO12 := Lib.hid (own_two HO11.out ht (by omega) (by omega))
      clear hs ht
      rw [show Int.toNat 1125899906842624 = mostN from rfl] at *
      generalize hnk : (nameRS q.1).2 = nk at *
      generalize hak : (numRS (nameRS q.1).1 mostN).2 = ak at *
      have Hnk := Lib.hid hnk; have Hak := Lib.hid hak
      clear hnk hak
      go_upto_region 10 with fail
      have hlt12 : gp < w12.heap.size := block_lt HP12.out
      have Hrow := Lib.hid (fun k hk => (HO12.out.lt k hk).2)
      have HH13 := Lib.hid (heap_alloc_new w12 (.cells #[.int .u8 (nk.x0 : Int), .int .u8 (nk.x1 : Int), .int .u8 (nk.x2 : Int), .int .u8 (nk.x3 : Int), .int .u8 (nk.x4 : Int), .int .u8 (nk.x5 : Int), .int .u8 (nk.x6 : Int), .int .u8 (nk.x7 : Int), .int .i64 (ak : Int), .int .i64 0, .int .i64 0] 56))
      have HX13 := Lib.hid (block_alloc HX12.out (.cells #[.int .u8 (nk.x0 : Int), .int .u8 (nk.x1 : Int), .int .u8 (nk.x2 : Int), .int .u8 (nk.x3 : Int), .int .u8 (nk.x4 : Int), .int .u8 (nk.x5 : Int), .int .u8 (nk.x6 : Int), .int .u8 (nk.x7 : Int), .int .i64 (ak : Int), .int .i64 0, .int .i64 0] 56)); have HP13 := Lib.hid (block_alloc HP12.out (.cells #[.int .u8 (nk.x0 : Int), .int .u8 (nk.x1 : Int), .int .u8 (nk.x2 : Int), .int .u8 (nk.x3 : Int), .int .u8 (nk.x4 : Int), .int .u8 (nk.x5 : Int), .int .u8 (nk.x6 : Int), .int .u8 (nk.x7 : Int), .int .i64 (ak : Int), .int .i64 0, .int .i64 0] 56))
      have HS13 := Lib.hid (HS12.out.below (h_one w12 (.cells #[.int .u8 (nk.x0 : Int), .int .u8 (nk.x1 : Int), .int .u8 (nk.x2 : Int), .int .u8 (nk.x3 : Int), .int .u8 (nk.x4 : Int), .int .u8 (nk.x5 : Int), .int .u8 (nk.x6 : Int), .int .u8 (nk.x7 : Int), .int .i64 (ak : Int), .int .i64 0, .int .i64 0] 56))); have Hw13 := Lib.hid (Hw12.out.alloc Hw12.out.size (.cells #[.int .u8 (nk.x0 : Int), .int .u8 (nk.x1 : Int), .int .u8 (nk.x2 : Int), .int .u8 (nk.x3 : Int), .int .u8 (nk.x4 : Int), .int .u8 (nk.x5 : Int), .int .u8 (nk.x6 : Int), .int .u8 (nk.x7 : Int), .int .i64 (ak : Int), .int .i64 0, .int .i64 0] 56)); have HO13 := Lib.hid (HO12.out.alloc (.cells #[.int .u8 (nk.x0 : Int), .int .u8 (nk.x1 : Int), .int .u8 (nk.x2 : Int), .int .u8 (nk.x3 : Int), .int .u8 (nk.x4 : Int), .int .u8 (nk.x5 : Int), .int .u8 (nk.x6 : Int), .int .u8 (nk.x7 : Int), .int .i64 (ak : Int), .int .i64 0, .int .i64 0] 56))
      generalize w12.alloc (.cells #[.int .u8 (nk.x0 : Int), .int .u8 (nk.x1 : Int), .int .u8 (nk.x2 : Int), .int .u8 (nk.x3 : Int), .int .u8 (nk.x4 : Int), .int .u8 (nk.x5 : Int), .int .u8 (nk.x6 : Int), .int .u8 (nk.x7 : Int), .int .i64 (ak : Int), .int .i64 0, .int .i64 0] 56) = w13 at *
      generalize w12.heap.size = gh at *
      go_wp2_with fail
      refine (srcnum_any g b _ 1 w13 HS13.out (by omega) (by omega)).mono ?_
      rintro e w14 ⟨rfl, hs, ht⟩
      have HS14 := Lib.hid hs
      have HX14 := Lib.hid (two_block ht HX13.out (by omega) (by omega)); have HP14 := Lib.hid (two_block ht HP13.out (by omega) (by omega)); have HH14 := Lib.hid (two_block ht HH13.out (by omega) (by omega)); have Hw14 := Lib.hid (Hw13.out.trans (ht.toBelow Hw13.out.size (by omega) (by omega))); have HO14 := Lib.hid (own_two HO13.out ht (by omega) (by omega))
      clear hs ht
      rw [show Int.toNat 1 = 1 from rfl] at *
      generalize hfk : (numRS (numRS (nameRS q.1).1 mostN).1 1).2 = fk at *
      have Hfk := Lib.hid hfk
      clear hfk
      have pf := block_free HH14.out
      have z9 := block_cell HH14.out 9
      simp at z9
      go_upto_region 11 with fail
      have hg15 := grown_set1 w14 gh 9 (.int .i64 (fk : Int))
      have HH15 := Lib.hid (hd_set9 HH14.out (.int .i64 (fk : Int)))
      have HS15 := Lib.hid (src_grown HS14.out hg15 (by omega)); have HX15 := Lib.hid (block_grown HX14.out hg15 (by intro e; injection e with e; omega)); have HP15 := Lib.hid (block_grown HP14.out hg15 (by intro e; injection e with e; omega)); have Hw15 := Lib.hid (Hw14.out.grown hg15 Hw14.out.size (fun k hk => by injection hk with hk; omega)); have HO15 := Lib.hid (HO14.out.kept hg15 (.inr (fun e => by have := Hrow.out _ e; omega)))
      clear hg15 pf z9
      generalize w14.setCell ⟨gh, 9, none⟩ (.int .i64 (fk : Int)) = w15 at *
      go_wp2_with fail
      refine (srcnum_any g b _ 1099511627776 w15 HS15.out (by omega) (by omega)).mono ?_
      rintro e w16 ⟨rfl, hs, ht⟩
      have HS16 := Lib.hid hs
      have HX16 := Lib.hid (two_block ht HX15.out (by omega) (by omega)); have HP16 := Lib.hid (two_block ht HP15.out (by omega) (by omega)); have HH16 := Lib.hid (two_block ht HH15.out (by omega) (by omega)); have Hw16 := Lib.hid (Hw15.out.trans (ht.toBelow Hw15.out.size (by omega) (by omega))); have HO16 := Lib.hid (own_two HO15.out ht (by omega) (by omega))
      clear hs ht
      rw [show Int.toNat 1099511627776 = farN from rfl] at *
      generalize huk : (numRS (numRS (numRS (nameRS q.1).1 mostN).1 1).1 farN).2 = uk at *
      have Huk := Lib.hid huk
      clear huk
      have pf := block_free HH16.out
      have z10 := block_cell HH16.out 10
      simp at z10
      go_upto_region 12 with fail
      have hg17 := grown_set1 w16 gh 10 (.int .i64 (uk : Int))
      have HH17 := Lib.hid (hd_set10 HH16.out (.int .i64 (uk : Int)))
      have HS17 := Lib.hid (src_grown HS16.out hg17 (by omega)); have HX17 := Lib.hid (block_grown HX16.out hg17 (by intro e; injection e with e; omega)); have HP17 := Lib.hid (block_grown HP16.out hg17 (by intro e; injection e with e; omega)); have Hw17 := Lib.hid (Hw16.out.grown hg17 Hw16.out.size (fun k hk => by injection hk with hk; omega)); have HO17 := Lib.hid (HO16.out.kept hg17 (.inr (fun e => by have := Hrow.out _ e; omega)))
      clear hg17 pf z10
      generalize w16.setCell ⟨gh, 10, none⟩ (.int .i64 (uk : Int)) = w17 at *
      clear HX16 HP16 HH16 HS16 Hw16 HO16 HX15 HP15 HH15 HS15 Hw15 HO15 HX14 HP14 HH14 HS14 Hw14 HO14 HX13 HP13 HH13 HS13 Hw13 HO13 HX12 HP12 HS12 Hw12 HO12 HX11 HP11 HS11 Hw11 HO11
      have pl := block_cell HP17.out 11
      have pf := block_free HP17.out
      simp at pl
      have y0 := block_cell HH17.out 0; have y1 := block_cell HH17.out 1; have y2 := block_cell HH17.out 2; have y3 := block_cell HH17.out 3; have y4 := block_cell HH17.out 4; have y5 := block_cell HH17.out 5; have y6 := block_cell HH17.out 6; have y7 := block_cell HH17.out 7; have y8 := block_cell HH17.out 8; have y9 := block_cell HH17.out 9; have y10 := block_cell HH17.out 10
      simp at y0 y1 y2 y3 y4 y5 y6 y7 y8 y9 y10
      have hn16 : n' ≤ 16 := by have := Hn'.out; omega
      have hgp17 : gp + 1 ≤ w17.heap.size := block_lt HP17.out
      obtain ⟨ih, hi, hz0, hz1, hz2⟩ := info_parts info_Held
      have HI := Lib.hid (And.intro hi (And.intro hz0 (And.intro hz1 hz2))); clear hi hz0 hz1 hz2
      go_wp2_with (at_builtin; go_must ((refine wpList_append_lit w17 (by rfl) _ _ 30 (by rfl) (gp + 1) 56 ih (.agg #[.int .u8 0, .int .u8 0, .int .u8 0, .int .u8 0, .int .u8 0, .int .u8 0, .int .u8 0, .int .u8 0, .int .i64 0, .int .i64 0, .int .i64 0]) 11 32 Try.underlying30 HI.out rfl (by decide) _ _ _ (by rfl) HO17.out 1 1 #[.int .u8 (nk.x0 : Int), .int .u8 (nk.x1 : Int), .int .u8 (nk.x2 : Int), .int .u8 (nk.x3 : Int), .int .u8 (nk.x4 : Int), .int .u8 (nk.x5 : Int), .int .u8 (nk.x6 : Int), .int .u8 (nk.x7 : Int), .int .i64 (ak : Int), .int .i64 (fk : Int), .int .i64 (uk : Int)] 56 (by simp [Act.eval]) rfl (by simp [Value.oneCell']) (by omega) (by omega) hgp17 ?_; intro v18 w18 ho hb; obtain ⟨A18, c18, rfl⟩ := own_form ho; have HO18 := Lib.hid ho; have HP18 := Lib.hid (block_below HP17.out hb (by omega)); have HX18 := Lib.hid (block_below HX17.out hb (by omega)); have HS18 := Lib.hid (src_below' HS17.out hb (by omega)); have Hw18 := Lib.hid (Hw17.out.trans (hb.mono (by omega))); clear ho hb pl pf; have pf := block_free HP18.out; have pl := block_cell HP18.out 11; simp at pl)))
      have hg19 := grown_set1 w18 gp 11 (.slice A18 (n' + 1) c18)
      have HP19 := Lib.hid (pu_set11 HP18.out (.slice A18 (n' + 1) c18))
      have HS19 := Lib.hid (src_grown HS18.out hg19 hgp); have HX19 := Lib.hid (block_grown HX18.out hg19 (by intro e; injection e with e; omega)); have Hw19 := Lib.hid (Hw18.out.grown hg19 Hw18.out.size (fun k hk => by injection hk with hk; omega)); have HO19 := Lib.hid (HO18.out.kept hg19 (.inr (fun e => by have := (HO18.out.lt _ e).1; omega)))
      clear hg19 pf pl
      generalize w18.setCell ⟨gp, 11, none⟩ (.slice A18 (n' + 1) c18) = w19 at *
      have Hq2 : Hid (hRS (p5 l) (k + 1) = ((numRS (numRS (numRS (nameRS q.1).1 mostN).1 1).1 farN).1, q.2 ++ [⟨nk, (ak : Int), (fk : Int), (uk : Int)⟩])) := Lib.hid (by
        rw [Hgo.out, ← Hnk.out, ← Hak.out, ← Hfk.out, ← Huk.out]; rfl)
      have HSe : Hid (Src w19 g b (hRS (p5 l) (k + 1)).1) := Lib.hid (by rw [Hq2.out]; exact HS19.out)
      have HOe : Hid (w19.ownsRow (gp + 1) 56 11 (.slice A18 (n' + 1) c18) (n' + 1) (flatH (hRS (p5 l) (k + 1)).2)) := Lib.hid (by rw [Hq2.out]; simp only [flatH_append]; exact HO19.out)
      go_wp2
      go_roundw
      case rel => exact ⟨k + 1, n' + 1, A18, c18, by omega, by go_num, Lib.hid (by have := Hn'.out; omega), HSe, HX19, HP19, HOe, Hw19⟩
      case measure => simp [intOf]; omega
    · have Hex : Hid (hRS (p5 l) many = hRS (p5 l) k) := Lib.hid (by
        by_cases h2 : k < many
        · have h3 : (hRS (p5 l) k).1.err ≠ 0 := fun e => hgo ⟨h2, e⟩
          have := hRS_stop h3 (many - k)
          rwa [show k + (many - k) = many by omega] at this
        · rw [show k = many by omega])
      have Hpu : Hid (puRS l = ((hRS (p5 l) k).1, ⟨nm, (no : Int), (h0 : Int), (h1 : Int), (hRS (p5 l) k).2⟩)) := Lib.hid (by
        unfold puRS; rw [Hmany.out, Hnm.out, Hno.out, Hh0.out, Hh1.out, Hex.out])
      have Hdec : Hid (decPu l = if endRS (puRS l).1 ≠ 0 then (endRS (puRS l).1, pu0) else if (puRS l).2.check ≠ 0 then ((puRS l).2.check, pu0) else (0, (puRS l).2)) := Lib.hid rfl
      rw [Hpu.out] at Hdec
      have Hgo := Lib.hid hgo
      clear hgo
      generalize hRS (p5 l) k = q at *
      have sf := block_free HSk.out.block
      have s0 := block_cell HSk.out.block 0
      simp at s0
      have hgl := block_lt HSk.out.block
      have hn1000 : n' ≤ 16 := by have := Hn'.out; omega
      by_cases hlt : k < many
      · have hd1 : decide ((k : Int) < (many : Int)) = true := decide_eq_true (by omega)
        have hd2 : (q.1.err == 0) = false := by simpa using fun e => Hgo.out ⟨hlt, e⟩
        have hd3 : (q.1.err != 0) = true := by simpa using fun e => Hgo.out ⟨hlt, e⟩
        have Hr : Hid (decPu l = (q.1.err, pu0)) := Lib.hid (by
          have e : q.1.err ≠ 0 := fun e => Hgo.out ⟨hlt, e⟩
          rw [Hdec.out, if_pos (by unfold endRS; rw [if_pos e]; exact e)]; unfold endRS; rw [if_pos e])
        go_wp2
        have e1 := block_cell (HSk.out.block) 1
        simp at e1
        have r := block_cell HXk.out
        have r0 := r 0; have r1 := r 1; have r2 := r 2; have r3 := r 3; have r4 := r 4; have r5 := r 5; have r6 := r 6; have r7 := r 7; have r8 := r 8; have r9 := r 9; have r10 := r 10; have r11 := r 11
        have rf := block_free HXk.out
        simp at r0 r1 r2 r3 r4 r5 r6 r7 r8 r9 r10 r11
        clear r
        have Hz12 := Lib.hid (set12z (w := wr) (g := w.heap.size) HXk.out rfl)
        have hxl := block_lt HXk.out
        refine wp_region_held_drew (S := fun w' => w'.cell? ⟨g, 1, none⟩ = some (.int .i64 q.1.err)) (by kernel_rfl) e1 (fun hHeld => ?_)
        refine takeH 0 (some 61) (v := ?_) rfl (by kernel_rfl) (by kernel_rfl) (by kernel_rfl) (by kernel_rfl) (fun _ _ _ h => h) (Or.inl ⟨by kernel_rfl, ?hy⟩) (by assumption) ?_
        case hy =>
          intro w' hSw
          try dsimp only at hSw
          first
            | (go_simp; done)
            | (go_simp; with_reducible rfl)
        simp only [Act.put, List.setIfInBounds_toArray, List.set_cons_zero, List.set_cons_succ]
        refine takeH 1 (some 62) (v := ?_) rfl (by kernel_rfl) (by kernel_rfl) (by kernel_rfl) (by kernel_rfl) (fun _ _ _ h => h) (Or.inl ⟨by kernel_rfl, ?hy⟩) (by assumption) ?_
        case hy =>
          intro w' hSw
          try dsimp only at hSw
          first
            | (go_simp; done)
            | (go_simp; with_reducible rfl)
        simp only [Act.put, List.setIfInBounds_toArray, List.set_cons_zero, List.set_cons_succ]
        refine takeH 2 (some 63) (v := ?_) rfl (by kernel_rfl) (by kernel_rfl) (by kernel_rfl) (by kernel_rfl) (fun _ _ _ h => h) (Or.inl ⟨by kernel_rfl, ?hy⟩) (by assumption) ?_
        case hy =>
          intro w' hSw
          try dsimp only at hSw
          first
            | (go_simp; done)
            | (go_simp; with_reducible rfl)
        simp only [Act.put, List.setIfInBounds_toArray, List.set_cons_zero, List.set_cons_succ]
        refine wpAnyH_ready (rs := [3]) (by kernel_rfl) (by simp) ?_
        refine AllReadyH.cons rfl (fun K hK => ?_) AllReadyH.nil
        rw [if_pos (by kernel_rfl)]
        go_simp
        clear r0 r1 r2 r3 r4 r5 r6 r7 r8 r9 r10 r11 rf
        have hz1 := Hz12.out.1
        have hz2 := Hz12.out.2
        generalize (((((((((((wr.setCell ⟨w.heap.size, 0, none⟩ (.int .u8 0)).setCell ⟨w.heap.size, 1, none⟩ (.int .u8 0)).setCell ⟨w.heap.size, 2, none⟩ (.int .u8 0)).setCell ⟨w.heap.size, 3, none⟩ (.int .u8 0)).setCell ⟨w.heap.size, 4, none⟩ (.int .u8 0)).setCell ⟨w.heap.size, 5, none⟩ (.int .u8 0)).setCell ⟨w.heap.size, 6, none⟩ (.int .u8 0)).setCell ⟨w.heap.size, 7, none⟩ (.int .u8 0)).setCell ⟨w.heap.size, 8, none⟩ (.int .i64 0)).setCell ⟨w.heap.size, 9, none⟩ (.int .i64 0)).setCell ⟨w.heap.size, 10, none⟩ (.int .i64 0)).setCell ⟨w.heap.size, 11, none⟩ (.slice none 0 0) = w30 at *
        have e30 := block_cell (block_grown (HSk.out.block) hz2 (by intro e; injection e with e; omega)) 1
        simp at e30
        have Hw30 := Lib.hid (Hwk.out.grown hz2 Hwk.out.size (fun k hk => by injection hk with hk; omega))
        have HX30 := Lib.hid hz1
        clear hz1 hz2 Hz12
        refine hK.out _ _ e30 (fun hHeld2 => ?_)
        clear hK K hHeld
        refine wpAnyH_ready (rs := [4]) (by kernel_rfl) (by simp) ?_
        refine AllReadyH.cons rfl (fun K hK => ?_) AllReadyH.nil
        rw [if_pos (by kernel_rfl)]
        go_simp
        refine hK.out _ _ e30 (fun hHeld3 => ?_)
        clear hK K hHeld2
        refine wpAnyH_done (by kernel_rfl) ?_ _
        have r := block_cell HX30.out
        have r0 := r 0; have r1 := r 1; have r2 := r 2; have r3 := r 3; have r4 := r 4; have r5 := r 5; have r6 := r 6; have r7 := r 7; have r8 := r 8; have r9 := r 9; have r10 := r 10; have r11 := r 11
        have rf := block_free HX30.out
        simp at r0 r1 r2 r3 r4 r5 r6 r7 r8 r9 r10 r11
        clear r
        go_wp2
        refine bodyPost_ret (v := .tuple #[.agg #[.int .u8 0, .int .u8 0, .int .u8 0, .int .u8 0, .int .u8 0, .int .u8 0, .int .u8 0, .int .u8 0, .int .i64 0, .int .i64 0, .int .i64 0, .slice none 0 0], .int .i64 q.1.err]) (by simp [results, Try.results34, go_sem, r0, r1, r2, r3, r4, r5, r6, r7, r8, r9, r10, r11]) rfl (givesCh_no Hr.out Hw30.out.drew)
      · have hd1 : decide ((k : Int) < (many : Int)) = false := decide_eq_false (by omega)
        by_cases he : q.1.err = 0
        · have hd2 : (q.1.err == 0) = true := by simp [he]
          have Hr1 : Hid (RdAt wr b q.1) := Lib.hid (by
            obtain ⟨_, _, sr, h3, h4⟩ := HSk.out
            rw [← h4 he]; exact h3)
          have He := Lib.hid he
          have hend0 : (endRS q.1 ≠ 0) ↔ ¬ endRS q.1 = 0 := Iff.rfl
          clear he hend0
          go_wp2_with fail
          refine (end_any b q.1 wr Hr1.out).mono ?_
          rintro e w20 ⟨rfl, j, rfl⟩
          go_upto_region 15 with fail
          have hg21 := grown_set1 (wr.drewN j) g 1 (.int .i64 (endRS q.1))
          have HS21 := Lib.hid (src_set (e' := endRS q.1) (block_drewN HSk.out.block j))
          have HX21 := Lib.hid (block_grown (block_drewN HXk.out j) hg21 (by intro e; injection e with e; omega)); have HP21 := Lib.hid (block_grown (block_drewN HPk.out j) hg21 (by intro e; injection e with e; omega)); have Hw21 := Lib.hid ((below_drewN Hwk.out j).grown hg21 Hwk.out.size (fun k hk => by injection hk with hk; omega)); have HO21 := Lib.hid (show ((wr.drewN j).setCell ⟨g, 1, none⟩ (.int .i64 (endRS q.1))).ownsRow (gp + 1) 56 11 (.slice A' n' c') n' (flatH q.2) from World.ownsRow.kept (w := wr.drewN j) HOk.out hg21 (.inr (fun e => by have := (HOk.out.lt _ e).1; omega)))
          clear hg21 s0 s1 sf
          generalize (wr.drewN j).setCell ⟨g, 1, none⟩ (.int .i64 (endRS q.1)) = w21 at *
          have s1 := block_cell HS21.out 1
          have sf := block_free HS21.out
          simp at s1
          by_cases hE : endRS q.1 = 0
          · have hd3 : (endRS q.1 == 0) = true := by simp [hE]
            have HE := Lib.hid hE
            clear hE
            have hcap := own_cap HO21.out
            have Hat : Hid (PuV.At ⟨nm, (no : Int), (h0 : Int), (h1 : Int), q.2⟩ A' n' c' w21) := Lib.hid ⟨Rd.of_own HO21.out, hcap, by omega⟩
            have r := block_cell HP21.out
            have r0 := r 0; have r1 := r 1; have r2 := r 2; have r3 := r 3; have r4 := r 4; have r5 := r 5; have r6 := r 6; have r7 := r 7; have r8 := r 8; have r9 := r 9; have r10 := r 10; have r11 := r 11
            have rf := block_free HP21.out
            simp at r0 r1 r2 r3 r4 r5 r6 r7 r8 r9 r10 r11
            clear r
            go_wp2_with fail
            refine (pcheck_any (⟨nm, (no : Int), (h0 : Int), (h1 : Int), q.2⟩ : Pu) A' n' c' w21 Hat.out).mono ?_
            rintro e w22 ⟨rfl, hb22⟩
            have HS22 := Lib.hid (block_below HS21.out hb22 (block_lt HS21.out)); have HX22 := Lib.hid (block_below HX21.out hb22 (block_lt HX21.out)); have HP22 := Lib.hid (block_below HP21.out hb22 (block_lt HP21.out)); have HO22 := Lib.hid (own_below HO21.out hb22); have Hw22 := Lib.hid (Hw21.out.trans (hb22.mono Hw21.out.size))
            clear hb22 r0 r1 r2 r3 r4 r5 r6 r7 r8 r9 r10 r11 rf s1 sf
            generalize hck : (⟨nm, (no : Int), (h0 : Int), (h1 : Int), q.2⟩ : Pu).check = ck at *
            have Hck := Lib.hid hck
            clear hck
            have sf := block_free HS22.out
            have s1 := block_cell HS22.out 1
            simp at s1
            go_upto_region 17 with fail
            have hg23 := grown_set1 w22 g 1 (.int .i64 ck)
            have HS23 := Lib.hid (src_set (e' := ck) HS22.out)
            have HX23 := Lib.hid (block_grown HX22.out hg23 (by intro e; injection e with e; omega)); have HP23 := Lib.hid (block_grown HP22.out hg23 (by intro e; injection e with e; omega)); have Hw23 := Lib.hid (Hw22.out.grown hg23 Hw22.out.size (fun k hk => by injection hk with hk; omega)); have HO23 := Lib.hid (HO22.out.kept hg23 (.inr (fun e => by have := (HO22.out.lt _ e).1; omega)))
            clear hg23 s1 sf
            generalize w22.setCell ⟨g, 1, none⟩ (.int .i64 ck) = w23 at *
            have s1 := block_cell HS23.out 1
            have sf := block_free HS23.out
            simp at s1
            by_cases hC : ck = 0
            · have hd4 : (ck != 0) = false := by simp [hC]
              have Hr : Hid (decPu l = (0, ⟨nm, (no : Int), (h0 : Int), (h1 : Int), q.2⟩)) := Lib.hid (by rw [Hdec.out, if_neg (by simpa using HE.out), if_neg (by simpa using hC)])
              clear hC
              have r := block_cell HP23.out
              have r0 := r 0; have r1 := r 1; have r2 := r 2; have r3 := r 3; have r4 := r 4; have r5 := r 5; have r6 := r 6; have r7 := r 7; have r8 := r 8; have r9 := r 9; have r10 := r 10; have r11 := r 11
              have rf := block_free HP23.out
              simp at r0 r1 r2 r3 r4 r5 r6 r7 r8 r9 r10 r11
              clear r
              have HS12 := Lib.hid (set12v HX23.out rfl nm (no : Int) (h0 : Int) (h1 : Int) A' n' c')
              have z := block_cell HX23.out
              have z0 := z 0; have z1 := z 1; have z2 := z 2; have z3 := z 3; have z4 := z 4; have z5 := z 5; have z6 := z 6; have z7 := z 7; have z8 := z 8; have z9 := z 9; have z10 := z 10; have z11 := z 11
              have zf := block_free HX23.out
              simp at z0 z1 z2 z3 z4 z5 z6 z7 z8 z9 z10 z11
              clear z
              go_wp2
              clear z0 z1 z2 z3 z4 z5 z6 z7 z8 z9 z10 z11 zf r0 r1 r2 r3 r4 r5 r6 r7 r8 r9 r10 r11 rf s1 sf
              have hs1 := HS12.out.1
              have hs2 := HS12.out.2
              generalize (((((((((((w23.setCell ⟨w.heap.size, 0, none⟩ (.int .u8 (nm.x0 : Int))).setCell ⟨w.heap.size, 1, none⟩ (.int .u8 (nm.x1 : Int))).setCell ⟨w.heap.size, 2, none⟩ (.int .u8 (nm.x2 : Int))).setCell ⟨w.heap.size, 3, none⟩ (.int .u8 (nm.x3 : Int))).setCell ⟨w.heap.size, 4, none⟩ (.int .u8 (nm.x4 : Int))).setCell ⟨w.heap.size, 5, none⟩ (.int .u8 (nm.x5 : Int))).setCell ⟨w.heap.size, 6, none⟩ (.int .u8 (nm.x6 : Int))).setCell ⟨w.heap.size, 7, none⟩ (.int .u8 (nm.x7 : Int))).setCell ⟨w.heap.size, 8, none⟩ (.int .i64 (no : Int))).setCell ⟨w.heap.size, 9, none⟩ (.int .i64 (h0 : Int))).setCell ⟨w.heap.size, 10, none⟩ (.int .i64 (h1 : Int))).setCell ⟨w.heap.size, 11, none⟩ (.slice A' n' c') = w24 at *
              have HX24 := Lib.hid hs1
              have HO24 := Lib.hid (HO23.out.kept hs2 (.inr (fun e => by have := (HO23.out.lt _ e).1; omega)))
              have Hw24 := Lib.hid (Hw23.out.grown hs2 Hw23.out.size (fun k hk => by injection hk with hk; omega))
              clear hs1 hs2 HS12
              have r := block_cell HX24.out
              have r0 := r 0; have r1 := r 1; have r2 := r 2; have r3 := r 3; have r4 := r 4; have r5 := r 5; have r6 := r 6; have r7 := r 7; have r8 := r 8; have r9 := r 9; have r10 := r 10; have r11 := r 11
              have rf := block_free HX24.out
              simp at r0 r1 r2 r3 r4 r5 r6 r7 r8 r9 r10 r11
              clear r
              refine bodyPost_ret (v := .tuple #[.agg #[.int .u8 (nm.x0 : Int), .int .u8 (nm.x1 : Int), .int .u8 (nm.x2 : Int), .int .u8 (nm.x3 : Int), .int .u8 (nm.x4 : Int), .int .u8 (nm.x5 : Int), .int .u8 (nm.x6 : Int), .int .u8 (nm.x7 : Int), .int .i64 (no : Int), .int .i64 (h0 : Int), .int .i64 (h1 : Int), .slice A' n' c'], .int .i64 0]) (by simp [results, Try.results34, go_sem, r0, r1, r2, r3, r4, r5, r6, r7, r8, r9, r10, r11]) rfl ?_
              rw [Hr.out]
              exact ⟨A', n', c', rfl, pown_down HO24.out (by omega), Hw24.out⟩
            · have hd4 : (ck != 0) = true := by simp [hC]
              have Hr : Hid (decPu l = (ck, pu0)) := Lib.hid (by rw [Hdec.out, if_neg (by simpa using HE.out), if_pos hC])
              clear hC
              go_wp2
              have e1 := block_cell (HS23.out) 1
              simp at e1
              have r := block_cell HX23.out
              have r0 := r 0; have r1 := r 1; have r2 := r 2; have r3 := r 3; have r4 := r 4; have r5 := r 5; have r6 := r 6; have r7 := r 7; have r8 := r 8; have r9 := r 9; have r10 := r 10; have r11 := r 11
              have rf := block_free HX23.out
              simp at r0 r1 r2 r3 r4 r5 r6 r7 r8 r9 r10 r11
              clear r
              have Hz12 := Lib.hid (set12z (w := w23) (g := w.heap.size) HX23.out rfl)
              have hxl := block_lt HX23.out
              refine wp_region_held_drew (S := fun w' => w'.cell? ⟨g, 1, none⟩ = some (.int .i64 ck)) (by kernel_rfl) e1 (fun hHeld => ?_)
              refine takeH 0 (some 61) (v := ?_) rfl (by kernel_rfl) (by kernel_rfl) (by kernel_rfl) (by kernel_rfl) (fun _ _ _ h => h) (Or.inl ⟨by kernel_rfl, ?hy⟩) (by assumption) ?_
              case hy =>
                intro w' hSw
                try dsimp only at hSw
                first
                  | (go_simp; done)
                  | (go_simp; with_reducible rfl)
              simp only [Act.put, List.setIfInBounds_toArray, List.set_cons_zero, List.set_cons_succ]
              refine takeH 1 (some 62) (v := ?_) rfl (by kernel_rfl) (by kernel_rfl) (by kernel_rfl) (by kernel_rfl) (fun _ _ _ h => h) (Or.inl ⟨by kernel_rfl, ?hy⟩) (by assumption) ?_
              case hy =>
                intro w' hSw
                try dsimp only at hSw
                first
                  | (go_simp; done)
                  | (go_simp; with_reducible rfl)
              simp only [Act.put, List.setIfInBounds_toArray, List.set_cons_zero, List.set_cons_succ]
              refine takeH 2 (some 63) (v := ?_) rfl (by kernel_rfl) (by kernel_rfl) (by kernel_rfl) (by kernel_rfl) (fun _ _ _ h => h) (Or.inl ⟨by kernel_rfl, ?hy⟩) (by assumption) ?_
              case hy =>
                intro w' hSw
                try dsimp only at hSw
                first
                  | (go_simp; done)
                  | (go_simp; with_reducible rfl)
              simp only [Act.put, List.setIfInBounds_toArray, List.set_cons_zero, List.set_cons_succ]
              refine wpAnyH_ready (rs := [3]) (by kernel_rfl) (by simp) ?_
              refine AllReadyH.cons rfl (fun K hK => ?_) AllReadyH.nil
              rw [if_pos (by kernel_rfl)]
              go_simp
              clear r0 r1 r2 r3 r4 r5 r6 r7 r8 r9 r10 r11 rf
              have hz1 := Hz12.out.1
              have hz2 := Hz12.out.2
              generalize (((((((((((w23.setCell ⟨w.heap.size, 0, none⟩ (.int .u8 0)).setCell ⟨w.heap.size, 1, none⟩ (.int .u8 0)).setCell ⟨w.heap.size, 2, none⟩ (.int .u8 0)).setCell ⟨w.heap.size, 3, none⟩ (.int .u8 0)).setCell ⟨w.heap.size, 4, none⟩ (.int .u8 0)).setCell ⟨w.heap.size, 5, none⟩ (.int .u8 0)).setCell ⟨w.heap.size, 6, none⟩ (.int .u8 0)).setCell ⟨w.heap.size, 7, none⟩ (.int .u8 0)).setCell ⟨w.heap.size, 8, none⟩ (.int .i64 0)).setCell ⟨w.heap.size, 9, none⟩ (.int .i64 0)).setCell ⟨w.heap.size, 10, none⟩ (.int .i64 0)).setCell ⟨w.heap.size, 11, none⟩ (.slice none 0 0) = w30 at *
              have e30 := block_cell (block_grown (HS23.out) hz2 (by intro e; injection e with e; omega)) 1
              simp at e30
              have Hw30 := Lib.hid (Hw23.out.grown hz2 Hw23.out.size (fun k hk => by injection hk with hk; omega))
              have HX30 := Lib.hid hz1
              clear hz1 hz2 Hz12
              refine hK.out _ _ e30 (fun hHeld2 => ?_)
              clear hK K hHeld
              refine wpAnyH_ready (rs := [4]) (by kernel_rfl) (by simp) ?_
              refine AllReadyH.cons rfl (fun K hK => ?_) AllReadyH.nil
              rw [if_pos (by kernel_rfl)]
              go_simp
              refine hK.out _ _ e30 (fun hHeld3 => ?_)
              clear hK K hHeld2
              refine wpAnyH_done (by kernel_rfl) ?_ _
              have r := block_cell HX30.out
              have r0 := r 0; have r1 := r 1; have r2 := r 2; have r3 := r 3; have r4 := r 4; have r5 := r 5; have r6 := r 6; have r7 := r 7; have r8 := r 8; have r9 := r 9; have r10 := r 10; have r11 := r 11
              have rf := block_free HX30.out
              simp at r0 r1 r2 r3 r4 r5 r6 r7 r8 r9 r10 r11
              clear r
              go_wp2
              refine bodyPost_ret (v := .tuple #[.agg #[.int .u8 0, .int .u8 0, .int .u8 0, .int .u8 0, .int .u8 0, .int .u8 0, .int .u8 0, .int .u8 0, .int .i64 0, .int .i64 0, .int .i64 0, .slice none 0 0], .int .i64 ck]) (by simp [results, Try.results34, go_sem, r0, r1, r2, r3, r4, r5, r6, r7, r8, r9, r10, r11]) rfl (givesCh_no Hr.out Hw30.out.drew)
          · have hd3 : (endRS q.1 == 0) = false := by simp [hE]
            have hd4 : (endRS q.1 != 0) = true := by simp [hE]
            have Hr : Hid (decPu l = (endRS q.1, pu0)) := Lib.hid (by rw [Hdec.out, if_pos hE])
            clear hE
            go_wp2
            have e1 := block_cell (HS21.out) 1
            simp at e1
            have r := block_cell HX21.out
            have r0 := r 0; have r1 := r 1; have r2 := r 2; have r3 := r 3; have r4 := r 4; have r5 := r 5; have r6 := r 6; have r7 := r 7; have r8 := r 8; have r9 := r 9; have r10 := r 10; have r11 := r 11
            have rf := block_free HX21.out
            simp at r0 r1 r2 r3 r4 r5 r6 r7 r8 r9 r10 r11
            clear r
            have Hz12 := Lib.hid (set12z (w := w21) (g := w.heap.size) HX21.out rfl)
            have hxl := block_lt HX21.out
            refine wp_region_held_drew (S := fun w' => w'.cell? ⟨g, 1, none⟩ = some (.int .i64 (endRS q.1))) (by kernel_rfl) e1 (fun hHeld => ?_)
            refine takeH 0 (some 61) (v := ?_) rfl (by kernel_rfl) (by kernel_rfl) (by kernel_rfl) (by kernel_rfl) (fun _ _ _ h => h) (Or.inl ⟨by kernel_rfl, ?hy⟩) (by assumption) ?_
            case hy =>
              intro w' hSw
              try dsimp only at hSw
              first
                | (go_simp; done)
                | (go_simp; with_reducible rfl)
            simp only [Act.put, List.setIfInBounds_toArray, List.set_cons_zero, List.set_cons_succ]
            refine takeH 1 (some 62) (v := ?_) rfl (by kernel_rfl) (by kernel_rfl) (by kernel_rfl) (by kernel_rfl) (fun _ _ _ h => h) (Or.inl ⟨by kernel_rfl, ?hy⟩) (by assumption) ?_
            case hy =>
              intro w' hSw
              try dsimp only at hSw
              first
                | (go_simp; done)
                | (go_simp; with_reducible rfl)
            simp only [Act.put, List.setIfInBounds_toArray, List.set_cons_zero, List.set_cons_succ]
            refine takeH 2 (some 63) (v := ?_) rfl (by kernel_rfl) (by kernel_rfl) (by kernel_rfl) (by kernel_rfl) (fun _ _ _ h => h) (Or.inl ⟨by kernel_rfl, ?hy⟩) (by assumption) ?_
            case hy =>
              intro w' hSw
              try dsimp only at hSw
              first
                | (go_simp; done)
                | (go_simp; with_reducible rfl)
            simp only [Act.put, List.setIfInBounds_toArray, List.set_cons_zero, List.set_cons_succ]
            refine wpAnyH_ready (rs := [3]) (by kernel_rfl) (by simp) ?_
            refine AllReadyH.cons rfl (fun K hK => ?_) AllReadyH.nil
            rw [if_pos (by kernel_rfl)]
            go_simp
            clear r0 r1 r2 r3 r4 r5 r6 r7 r8 r9 r10 r11 rf
            have hz1 := Hz12.out.1
            have hz2 := Hz12.out.2
            generalize (((((((((((w21.setCell ⟨w.heap.size, 0, none⟩ (.int .u8 0)).setCell ⟨w.heap.size, 1, none⟩ (.int .u8 0)).setCell ⟨w.heap.size, 2, none⟩ (.int .u8 0)).setCell ⟨w.heap.size, 3, none⟩ (.int .u8 0)).setCell ⟨w.heap.size, 4, none⟩ (.int .u8 0)).setCell ⟨w.heap.size, 5, none⟩ (.int .u8 0)).setCell ⟨w.heap.size, 6, none⟩ (.int .u8 0)).setCell ⟨w.heap.size, 7, none⟩ (.int .u8 0)).setCell ⟨w.heap.size, 8, none⟩ (.int .i64 0)).setCell ⟨w.heap.size, 9, none⟩ (.int .i64 0)).setCell ⟨w.heap.size, 10, none⟩ (.int .i64 0)).setCell ⟨w.heap.size, 11, none⟩ (.slice none 0 0) = w30 at *
            have e30 := block_cell (block_grown (HS21.out) hz2 (by intro e; injection e with e; omega)) 1
            simp at e30
            have Hw30 := Lib.hid (Hw21.out.grown hz2 Hw21.out.size (fun k hk => by injection hk with hk; omega))
            have HX30 := Lib.hid hz1
            clear hz1 hz2 Hz12
            refine hK.out _ _ e30 (fun hHeld2 => ?_)
            clear hK K hHeld
            refine wpAnyH_ready (rs := [4]) (by kernel_rfl) (by simp) ?_
            refine AllReadyH.cons rfl (fun K hK => ?_) AllReadyH.nil
            rw [if_pos (by kernel_rfl)]
            go_simp
            refine hK.out _ _ e30 (fun hHeld3 => ?_)
            clear hK K hHeld2
            refine wpAnyH_done (by kernel_rfl) ?_ _
            have r := block_cell HX30.out
            have r0 := r 0; have r1 := r 1; have r2 := r 2; have r3 := r 3; have r4 := r 4; have r5 := r 5; have r6 := r 6; have r7 := r 7; have r8 := r 8; have r9 := r 9; have r10 := r 10; have r11 := r 11
            have rf := block_free HX30.out
            simp at r0 r1 r2 r3 r4 r5 r6 r7 r8 r9 r10 r11
            clear r
            go_wp2
            refine bodyPost_ret (v := .tuple #[.agg #[.int .u8 0, .int .u8 0, .int .u8 0, .int .u8 0, .int .u8 0, .int .u8 0, .int .u8 0, .int .u8 0, .int .i64 0, .int .i64 0, .int .i64 0, .slice none 0 0], .int .i64 (endRS q.1)]) (by simp [results, Try.results34, go_sem, r0, r1, r2, r3, r4, r5, r6, r7, r8, r9, r10, r11]) rfl (givesCh_no Hr.out Hw30.out.drew)
        · have hd2 : (q.1.err == 0) = false := by simp [he]
          have hd3 : (q.1.err != 0) = true := by simp [he]
          have Hr : Hid (decPu l = (q.1.err, pu0)) := Lib.hid (by
            rw [Hdec.out, if_pos (by unfold endRS; rw [if_pos he]; exact he)]; unfold endRS; rw [if_pos he])
          clear he
          go_wp2
          have e1 := block_cell (HSk.out.block) 1
          simp at e1
          have r := block_cell HXk.out
          have r0 := r 0; have r1 := r 1; have r2 := r 2; have r3 := r 3; have r4 := r 4; have r5 := r 5; have r6 := r 6; have r7 := r 7; have r8 := r 8; have r9 := r 9; have r10 := r 10; have r11 := r 11
          have rf := block_free HXk.out
          simp at r0 r1 r2 r3 r4 r5 r6 r7 r8 r9 r10 r11
          clear r
          have Hz12 := Lib.hid (set12z (w := wr) (g := w.heap.size) HXk.out rfl)
          have hxl := block_lt HXk.out
          refine wp_region_held_drew (S := fun w' => w'.cell? ⟨g, 1, none⟩ = some (.int .i64 q.1.err)) (by kernel_rfl) e1 (fun hHeld => ?_)
          refine takeH 0 (some 61) (v := ?_) rfl (by kernel_rfl) (by kernel_rfl) (by kernel_rfl) (by kernel_rfl) (fun _ _ _ h => h) (Or.inl ⟨by kernel_rfl, ?hy⟩) (by assumption) ?_
          case hy =>
            intro w' hSw
            try dsimp only at hSw
            first
              | (go_simp; done)
              | (go_simp; with_reducible rfl)
          simp only [Act.put, List.setIfInBounds_toArray, List.set_cons_zero, List.set_cons_succ]
          refine takeH 1 (some 62) (v := ?_) rfl (by kernel_rfl) (by kernel_rfl) (by kernel_rfl) (by kernel_rfl) (fun _ _ _ h => h) (Or.inl ⟨by kernel_rfl, ?hy⟩) (by assumption) ?_
          case hy =>
            intro w' hSw
            try dsimp only at hSw
            first
              | (go_simp; done)
              | (go_simp; with_reducible rfl)
          simp only [Act.put, List.setIfInBounds_toArray, List.set_cons_zero, List.set_cons_succ]
          refine takeH 2 (some 63) (v := ?_) rfl (by kernel_rfl) (by kernel_rfl) (by kernel_rfl) (by kernel_rfl) (fun _ _ _ h => h) (Or.inl ⟨by kernel_rfl, ?hy⟩) (by assumption) ?_
          case hy =>
            intro w' hSw
            try dsimp only at hSw
            first
              | (go_simp; done)
              | (go_simp; with_reducible rfl)
          simp only [Act.put, List.setIfInBounds_toArray, List.set_cons_zero, List.set_cons_succ]
          refine wpAnyH_ready (rs := [3]) (by kernel_rfl) (by simp) ?_
          refine AllReadyH.cons rfl (fun K hK => ?_) AllReadyH.nil
          rw [if_pos (by kernel_rfl)]
          go_simp
          clear r0 r1 r2 r3 r4 r5 r6 r7 r8 r9 r10 r11 rf
          have hz1 := Hz12.out.1
          have hz2 := Hz12.out.2
          generalize (((((((((((wr.setCell ⟨w.heap.size, 0, none⟩ (.int .u8 0)).setCell ⟨w.heap.size, 1, none⟩ (.int .u8 0)).setCell ⟨w.heap.size, 2, none⟩ (.int .u8 0)).setCell ⟨w.heap.size, 3, none⟩ (.int .u8 0)).setCell ⟨w.heap.size, 4, none⟩ (.int .u8 0)).setCell ⟨w.heap.size, 5, none⟩ (.int .u8 0)).setCell ⟨w.heap.size, 6, none⟩ (.int .u8 0)).setCell ⟨w.heap.size, 7, none⟩ (.int .u8 0)).setCell ⟨w.heap.size, 8, none⟩ (.int .i64 0)).setCell ⟨w.heap.size, 9, none⟩ (.int .i64 0)).setCell ⟨w.heap.size, 10, none⟩ (.int .i64 0)).setCell ⟨w.heap.size, 11, none⟩ (.slice none 0 0) = w30 at *
          have e30 := block_cell (block_grown (HSk.out.block) hz2 (by intro e; injection e with e; omega)) 1
          simp at e30
          have Hw30 := Lib.hid (Hwk.out.grown hz2 Hwk.out.size (fun k hk => by injection hk with hk; omega))
          have HX30 := Lib.hid hz1
          clear hz1 hz2 Hz12
          refine hK.out _ _ e30 (fun hHeld2 => ?_)
          clear hK K hHeld
          refine wpAnyH_ready (rs := [4]) (by kernel_rfl) (by simp) ?_
          refine AllReadyH.cons rfl (fun K hK => ?_) AllReadyH.nil
          rw [if_pos (by kernel_rfl)]
          go_simp
          refine hK.out _ _ e30 (fun hHeld3 => ?_)
          clear hK K hHeld2
          refine wpAnyH_done (by kernel_rfl) ?_ _
          have r := block_cell HX30.out
          have r0 := r 0; have r1 := r 1; have r2 := r 2; have r3 := r 3; have r4 := r 4; have r5 := r 5; have r6 := r 6; have r7 := r 7; have r8 := r 8; have r9 := r 9; have r10 := r 10; have r11 := r 11
          have rf := block_free HX30.out
          simp at r0 r1 r2 r3 r4 r5 r6 r7 r8 r9 r10 r11
          clear r
          go_wp2
          refine bodyPost_ret (v := .tuple #[.agg #[.int .u8 0, .int .u8 0, .int .u8 0, .int .u8 0, .int .u8 0, .int .u8 0, .int .u8 0, .int .u8 0, .int .i64 0, .int .i64 0, .int .i64 0, .slice none 0 0], .int .i64 q.1.err]) (by simp [results, Try.results34, go_sem, r0, r1, r2, r3, r4, r5, r6, r7, r8, r9, r10, r11]) rfl (givesCh_no Hr.out Hw30.out.drew)
end Go.Proofs.Ytjiecnoplnaahaa
