/- The walk of TxReal: a transaction signed by a real signer verifies by that, and by nothing else. Condition: what is handed in can be read. -/
import Derived.Test.YthjpaclcoipocaaGreatJoinQ
import Derived.Test.YthjpaclcoipocaaGreatTxAk
import Derived.Test.YthjpaclcoipocaaGreatJoinC
import Derived.RegionTactic
namespace Go.Proofs.YthjpaclcoipocaaGreat
open Go.RowKit Go.Lib



theorem bv_minR {l : List Nat} {n k : Nat} (h : l.length = n) : (bv l).take (min n k) = bv (l.take k) := by
  rw [bv_take]
  rcases Nat.le_total n k with h1 | h1
  · rw [Nat.min_eq_left h1, List.take_of_length_le (by rw [bv_len]; omega), List.take_of_length_le (by rw [bv_len]; omega)]
  · rw [Nat.min_eq_right h1]
theorem sign_twice (s q : D8) (h : Nat) : ((RingM.new s h).sign q).2.2 = 0 ∧ ((RingM.new s h).sign q).1.secret = s ∧ ((RingM.new s h).sign q).1.h = h ∧ (((RingM.new s h).sign q).1.sign q).2 = (((RingM.new s h).sign q).2.1, 0) := by
  have hp : 0 < 2 ^ h := Nat.pow_pos (by decide)
  have h1 : (RingM.new s h).reserve q = (⟨s, h, [q]⟩, 0, 0) := by
    unfold RingM.reserve RingM.new
    rw [show posD [] q = none from rfl]
    simp only [List.length_nil]
    rw [if_neg (by omega)]
    rfl
  have h2 : (RingM.new s h).sign q = (⟨s, h, [q]⟩, RingM.sigB ⟨s, h, [q]⟩ 0 q, 0) := by
    unfold RingM.sign
    simp [h1]
  have h3 : posD [q] q = some 0 := by
    unfold posD
    simp [List.findIdx?_cons, show sameD q q = true from sameD_iff.2 rfl]
  have h4 : (RingM.mk s h [q]).reserve q = (⟨s, h, [q]⟩, 0, 0) := by
    unfold RingM.reserve
    simp only [h3]
  rw [h2]
  refine ⟨rfl, rfl, rfl, ?_⟩
  unfold RingM.sign
  simp [h4]
theorem TxV.Off.below {t : TxV} {w w' : World} {G : Nat → Prop} (h : t.Off w G) (hb : Below w.heap.size w w') : t.Off w' G := ⟨⟨own_below h.1.1 hb, h.1.2⟩, own_below h.2.1 hb, h.2.2⟩
theorem loadX {t : TxV} {w : World} {b : Nat} (h : w.heap[b]? = some (.cells #[.int .u8 (t.d.x0 : Int), .int .u8 (t.d.x1 : Int), .int .u8 (t.d.x2 : Int), .int .u8 (t.d.x3 : Int), .int .u8 (t.d.x4 : Int), .int .u8 (t.d.x5 : Int), .int .u8 (t.d.x6 : Int), .int .u8 (t.d.x7 : Int), .int .i64 t.no, .int .i64 t.fe, .int .i64 t.ki, .slice t.A t.n t.c, .slice t.A' t.n' t.c'] 32 (0, 0))) : (Instr.loadAt 32 (.pointer (some ⟨b, 0, none⟩))).run Tryz.prog w = .ok (.agg #[.int .u8 (t.d.x0 : Int), .int .u8 (t.d.x1 : Int), .int .u8 (t.d.x2 : Int), .int .u8 (t.d.x3 : Int), .int .u8 (t.d.x4 : Int), .int .u8 (t.d.x5 : Int), .int .u8 (t.d.x6 : Int), .int .u8 (t.d.x7 : Int), .int .i64 t.no, .int .i64 t.fe, .int .i64 t.ki, .slice t.A t.n t.c, .slice t.A' t.n' t.c']) w := by
  have x := block_cell h
  have x0 := x 0; have x1 := x 1; have x2 := x 2; have x3 := x 3; have x4 := x 4; have x5 := x 5; have x6 := x 6; have x7 := x 7; have x8 := x 8; have x9 := x 9; have x10 := x 10; have x11 := x 11; have x12 := x 12
  simp at x0 x1 x2 x3 x4 x5 x6 x7 x8 x9 x10 x11 x12
  clear x h
  go_simp
set_option maxRecDepth 100000 in
theorem txsignN_any (t : TxV) (w : World) : Calls Tryz.prog 5 #[.agg #[.int .u8 (t.d.x0 : Int), .int .u8 (t.d.x1 : Int), .int .u8 (t.d.x2 : Int), .int .u8 (t.d.x3 : Int), .int .u8 (t.d.x4 : Int), .int .u8 (t.d.x5 : Int), .int .u8 (t.d.x6 : Int), .int .u8 (t.d.x7 : Int), .int .i64 t.no, .int .i64 t.fe, .int .i64 t.ki, .slice t.A t.n t.c, .slice t.A' t.n' t.c'], .nilIface] w fun e w' => e = .returned (.tuple #[.agg #[.int .u8 (txZ.d.x0 : Int), .int .u8 (txZ.d.x1 : Int), .int .u8 (txZ.d.x2 : Int), .int .u8 (txZ.d.x3 : Int), .int .u8 (txZ.d.x4 : Int), .int .u8 (txZ.d.x5 : Int), .int .u8 (txZ.d.x6 : Int), .int .u8 (txZ.d.x7 : Int), .int .i64 txZ.no, .int .i64 txZ.fe, .int .i64 txZ.ki, .slice txZ.A txZ.n txZ.c, .slice txZ.A' txZ.n' txZ.c'], .int .i64 1]) ∧ Below w.heap.size w w' := by
  have hb0 := h_two w (.cells #[.int .u8 (t.d.x0 : Int), .int .u8 (t.d.x1 : Int), .int .u8 (t.d.x2 : Int), .int .u8 (t.d.x3 : Int), .int .u8 (t.d.x4 : Int), .int .u8 (t.d.x5 : Int), .int .u8 (t.d.x6 : Int), .int .u8 (t.d.x7 : Int), .int .i64 t.no, .int .i64 t.fe, .int .i64 t.ki, .slice t.A t.n t.c, .slice t.A' t.n' t.c'] 32) (.cells #[.int .u8 0, .int .u8 0, .int .u8 0, .int .u8 0, .int .u8 0, .int .u8 0, .int .u8 0, .int .u8 0, .int .i64 0, .int .i64 0, .int .i64 0, .slice none 0 0, .slice none 0 0] 32)
  have HZ : Hid (Box txZ ((w.alloc (.cells #[.int .u8 (t.d.x0 : Int), .int .u8 (t.d.x1 : Int), .int .u8 (t.d.x2 : Int), .int .u8 (t.d.x3 : Int), .int .u8 (t.d.x4 : Int), .int .u8 (t.d.x5 : Int), .int .u8 (t.d.x6 : Int), .int .u8 (t.d.x7 : Int), .int .i64 t.no, .int .i64 t.fe, .int .i64 t.ki, .slice t.A t.n t.c, .slice t.A' t.n' t.c'] 32)).alloc (.cells #[.int .u8 0, .int .u8 0, .int .u8 0, .int .u8 0, .int .u8 0, .int .u8 0, .int .u8 0, .int .u8 0, .int .i64 0, .int .i64 0, .int .i64 0, .slice none 0 0, .slice none 0 0] 32)) (w.heap.size + 1)) := h_at (by simp)
  have Hb0 := Lib.hid hb0
  have hz0 : ((w.alloc (.cells #[.int .u8 (t.d.x0 : Int), .int .u8 (t.d.x1 : Int), .int .u8 (t.d.x2 : Int), .int .u8 (t.d.x3 : Int), .int .u8 (t.d.x4 : Int), .int .u8 (t.d.x5 : Int), .int .u8 (t.d.x6 : Int), .int .u8 (t.d.x7 : Int), .int .i64 t.no, .int .i64 t.fe, .int .i64 t.ki, .slice t.A t.n t.c, .slice t.A' t.n' t.c'] 32)).alloc (.cells #[.int .u8 0, .int .u8 0, .int .u8 0, .int .u8 0, .int .u8 0, .int .u8 0, .int .u8 0, .int .u8 0, .int .i64 0, .int .i64 0, .int .i64 0, .slice none 0 0, .slice none 0 0] 32)).heap.size = w.heap.size + 2 := by simp
  have Hz0 := Lib.hid hz0
  clear hb0 hz0
  go_enter Tryz.func5, Tryz.ntmps5
  go_upto_region 1 with fail
  generalize (w.alloc (.cells #[.int .u8 (t.d.x0 : Int), .int .u8 (t.d.x1 : Int), .int .u8 (t.d.x2 : Int), .int .u8 (t.d.x3 : Int), .int .u8 (t.d.x4 : Int), .int .u8 (t.d.x5 : Int), .int .u8 (t.d.x6 : Int), .int .u8 (t.d.x7 : Int), .int .i64 t.no, .int .i64 t.fe, .int .i64 t.ki, .slice t.A t.n t.c, .slice t.A' t.n' t.c'] 32)).alloc (.cells #[.int .u8 0, .int .u8 0, .int .u8 0, .int .u8 0, .int .u8 0, .int .u8 0, .int .u8 0, .int .u8 0, .int .i64 0, .int .i64 0, .int .i64 0, .slice none 0 0, .slice none 0 0] 32) = w6 at *
  obtain ⟨z0, z1, z2, z3, z4, z5, z6, z7, z8, z9, z10, z11, z12⟩ := HZ.out.all
  have zf := block_free HZ.out
  have hk7 : Box txZ ((((((((((((((w6.setCell ⟨(w.heap.size + 1), 0, none⟩ (.int .u8 0)).setCell ⟨(w.heap.size + 1), 1, none⟩ (.int .u8 0)).setCell ⟨(w.heap.size + 1), 2, none⟩ (.int .u8 0)).setCell ⟨(w.heap.size + 1), 3, none⟩ (.int .u8 0)).setCell ⟨(w.heap.size + 1), 4, none⟩ (.int .u8 0)).setCell ⟨(w.heap.size + 1), 5, none⟩ (.int .u8 0)).setCell ⟨(w.heap.size + 1), 6, none⟩ (.int .u8 0)).setCell ⟨(w.heap.size + 1), 7, none⟩ (.int .u8 0)).setCell ⟨(w.heap.size + 1), 8, none⟩ (.int .i64 0)).setCell ⟨(w.heap.size + 1), 9, none⟩ (.int .i64 0)).setCell ⟨(w.heap.size + 1), 10, none⟩ (.int .i64 0)).setCell ⟨(w.heap.size + 1), 11, none⟩ (.slice none 0 0)).setCell ⟨(w.heap.size + 1), 12, none⟩ (.slice none 0 0))) (w.heap.size + 1) ∧ w6.grownBy ((((((((((((((w6.setCell ⟨(w.heap.size + 1), 0, none⟩ (.int .u8 0)).setCell ⟨(w.heap.size + 1), 1, none⟩ (.int .u8 0)).setCell ⟨(w.heap.size + 1), 2, none⟩ (.int .u8 0)).setCell ⟨(w.heap.size + 1), 3, none⟩ (.int .u8 0)).setCell ⟨(w.heap.size + 1), 4, none⟩ (.int .u8 0)).setCell ⟨(w.heap.size + 1), 5, none⟩ (.int .u8 0)).setCell ⟨(w.heap.size + 1), 6, none⟩ (.int .u8 0)).setCell ⟨(w.heap.size + 1), 7, none⟩ (.int .u8 0)).setCell ⟨(w.heap.size + 1), 8, none⟩ (.int .i64 0)).setCell ⟨(w.heap.size + 1), 9, none⟩ (.int .i64 0)).setCell ⟨(w.heap.size + 1), 10, none⟩ (.int .i64 0)).setCell ⟨(w.heap.size + 1), 11, none⟩ (.slice none 0 0)).setCell ⟨(w.heap.size + 1), 12, none⟩ (.slice none 0 0))) (some (w.heap.size + 1)) := set13 (t' := txZ) HZ.out
  go_wp2
  have Hw7 := Lib.hid (Hb0.out.grown hk7.2 Hb0.out.size (fun q hq => by injection hq with hq; omega))
  have HZ7 := Lib.hid hk7.1
  generalize (((((((((((((w6.setCell ⟨(w.heap.size + 1), 0, none⟩ (.int .u8 0)).setCell ⟨(w.heap.size + 1), 1, none⟩ (.int .u8 0)).setCell ⟨(w.heap.size + 1), 2, none⟩ (.int .u8 0)).setCell ⟨(w.heap.size + 1), 3, none⟩ (.int .u8 0)).setCell ⟨(w.heap.size + 1), 4, none⟩ (.int .u8 0)).setCell ⟨(w.heap.size + 1), 5, none⟩ (.int .u8 0)).setCell ⟨(w.heap.size + 1), 6, none⟩ (.int .u8 0)).setCell ⟨(w.heap.size + 1), 7, none⟩ (.int .u8 0)).setCell ⟨(w.heap.size + 1), 8, none⟩ (.int .i64 0)).setCell ⟨(w.heap.size + 1), 9, none⟩ (.int .i64 0)).setCell ⟨(w.heap.size + 1), 10, none⟩ (.int .i64 0)).setCell ⟨(w.heap.size + 1), 11, none⟩ (.slice none 0 0)).setCell ⟨(w.heap.size + 1), 12, none⟩ (.slice none 0 0)) = w7 at *
  clear z0 z1 z2 z3 z4 z5 z6 z7 z8 z9 z10 z11 z12 zf hk7
  obtain ⟨r0, r1, r2, r3, r4, r5, r6, r7, r8, r9, r10, r11, r12⟩ := HZ7.out.all
  refine bodyPost_ret (v := .tuple #[.agg #[.int .u8 (txZ.d.x0 : Int), .int .u8 (txZ.d.x1 : Int), .int .u8 (txZ.d.x2 : Int), .int .u8 (txZ.d.x3 : Int), .int .u8 (txZ.d.x4 : Int), .int .u8 (txZ.d.x5 : Int), .int .u8 (txZ.d.x6 : Int), .int .u8 (txZ.d.x7 : Int), .int .i64 txZ.no, .int .i64 txZ.fe, .int .i64 txZ.ki, .slice txZ.A txZ.n txZ.c, .slice txZ.A' txZ.n' txZ.c'], .int .i64 1]) (by simp [results, Tryz.results5, go_sem, r0, r1, r2, r3, r4, r5, r6, r7, r8, r9, r10, r11, r12]) rfl ⟨rfl, Hw7.out⟩
set_option maxRecDepth 100000 in
set_option maxHeartbeats 4000000 in
theorem treal_any (s : D8) (no : Nat) (A : Option Addr) (n c : Nat) (l : List Nat) (w : World) (hs : s.ok) (hno : no < 65536) (hr : Rd w w.heap.size 1 A n (bv l)) (hnc : n ≤ c) (hl : ∀ x ∈ l, x < 256) :
    Calls Tryz.prog 3 #[.agg #[.int .u8 (s.x0 : Int), .int .u8 (s.x1 : Int), .int .u8 (s.x2 : Int), .int .u8 (s.x3 : Int), .int .u8 (s.x4 : Int), .int .u8 (s.x5 : Int), .int .u8 (s.x6 : Int), .int .u8 (s.x7 : Int)], .int .u16 (no : Int), .slice A n c] w fun e w' => e = .returned (.bool true) ∧ Below w.heap.size w w' := by
  obtain ⟨A1, hrun1, hrd1⟩ := slice_to elem_u8 sizeOf_u8 hr hnc (m := min n 20) (by omega)
  have hr1 : ∀ w', (Instr.sliceAt 24 (.slice A n c) none (some (.int .i64 (min (n : Int) 20))) none).run Tryz.prog w' = .ok (.slice A1 (min n 20) c) w' := by
    intro w'; have := hrun1 w'; rwa [show ((min n 20 : Nat) : Int) = min (n : Int) 20 by omega] at this
  clear hrun1
  rw [Nat.mul_one, bv_minR hr.blen] at hrd1
  obtain ⟨k, hk⟩ : ∃ k, k = min n 20 := ⟨_, rfl⟩
  rw [← hk] at hrd1 hr1
  have hk20 : k ≤ 20 := by omega
  have hkc : k ≤ c := by omega
  have Hr := Lib.hid hrd1
  have Hlt : Hid (∀ x ∈ l.take 20, x < 256) := Lib.hid (fun x hx => hl x (List.mem_of_mem_take hx))
  generalize l.take 20 = bo at *
  have Hs := Lib.hid hs; have Hno := Lib.hid hno
  have HS0 : Hid ((w.alloc (.cells #[.int .u8 (s.x0 : Int), .int .u8 (s.x1 : Int), .int .u8 (s.x2 : Int), .int .u8 (s.x3 : Int), .int .u8 (s.x4 : Int), .int .u8 (s.x5 : Int), .int .u8 (s.x6 : Int), .int .u8 (s.x7 : Int)] 22)).heap[w.heap.size]? = some (.cells #[.int .u8 (s.x0 : Int), .int .u8 (s.x1 : Int), .int .u8 (s.x2 : Int), .int .u8 (s.x3 : Int), .int .u8 (s.x4 : Int), .int .u8 (s.x5 : Int), .int .u8 (s.x6 : Int), .int .u8 (s.x7 : Int)] 22 (0, 0))) := heap_alloc_new w _
  have Hw0 := Lib.hid (h_one w (.cells #[.int .u8 (s.x0 : Int), .int .u8 (s.x1 : Int), .int .u8 (s.x2 : Int), .int .u8 (s.x3 : Int), .int .u8 (s.x4 : Int), .int .u8 (s.x5 : Int), .int .u8 (s.x6 : Int), .int .u8 (s.x7 : Int)] 22))
  clear hr hnc hl hk hrd1 hs hno
  go_enter Tryz.func3, Tryz.ntmps3
  go_upto_region 1 with fail
  generalize w.alloc (.cells #[.int .u8 (s.x0 : Int), .int .u8 (s.x1 : Int), .int .u8 (s.x2 : Int), .int .u8 (s.x3 : Int), .int .u8 (s.x4 : Int), .int .u8 (s.x5 : Int), .int .u8 (s.x6 : Int), .int .u8 (s.x7 : Int)] 22) = w0 at *
  obtain ⟨zf, r0, r1, r2, r3, r4, r5, r6, r7⟩ := free8 HS0.out
  have hls := block_lt HS0.out
  clear zf
  go_wp2_with fail
  refine (newReal_any s 1 w0 Hs.out (by decide)).mono ?_
  rintro e w1 ⟨br, F, T0, T1, B, rfl, hB, ha, hb⟩
  have HBl := Lib.hid (Nat.le_trans Hw0.out.size hB); have HFl : Hid (∀ z, F z → w.heap.size ≤ z ∧ z < w1.heap.size) := Lib.hid (fun z hz => ⟨Nat.le_trans (Nat.le_trans Hw0.out.size hB) (ha.foot_lt z (.inl hz)).1, (ha.foot_lt z (.inl hz)).2⟩)
  have HA1 := Lib.hid ha; have Hw1 := Lib.hid (Hw0.out.trans (hb.mono Hw0.out.size))
  clear ha hb hB r0 r1 r2 r3 r4 r5 r6 r7 hls
  go_upto_region 5 with fail
  have hnz : 0 ≤ wrap64 (no : Int) ∧ wrap64 (no : Int) < 65536 := by have := Hno.out; rw [show wrap64 (no : Int) = (no : Int) by simp only [wrap64]; omega]; omega
  have Hnz := Lib.hid hnz
  clear hnz
  generalize wrap64 (no : Int) = nz at *
  obtain ⟨t0, ht0⟩ : ∃ t0 : TxV, t0 = ⟨d0, nz, 0, 2, A1, k, c, none, 0, 0, bo, []⟩ := ⟨_, rfl⟩
  have E0 : Hid (t0.d = d0 ∧ t0.no = nz ∧ t0.fe = 0 ∧ t0.ki = 2 ∧ t0.A = A1 ∧ t0.n = k ∧ t0.c = c ∧ t0.A' = none ∧ t0.n' = 0 ∧ t0.c' = 0 ∧ t0.bo = bo ∧ t0.si = []) := Lib.hid (by rw [ht0]; exact ⟨rfl, rfl, rfl, rfl, rfl, rfl, rfl, rfl, rfl, rfl, rfl, rfl⟩)
  have hcells : (Obj.cells #[.int .u8 0, .int .u8 0, .int .u8 0, .int .u8 0, .int .u8 0, .int .u8 0, .int .u8 0, .int .u8 0, .int .i64 nz, .int .i64 0, .int .i64 2, .slice A1 k c, .slice none 0 0] 32) = (.cells #[.int .u8 (t0.d.x0 : Int), .int .u8 (t0.d.x1 : Int), .int .u8 (t0.d.x2 : Int), .int .u8 (t0.d.x3 : Int), .int .u8 (t0.d.x4 : Int), .int .u8 (t0.d.x5 : Int), .int .u8 (t0.d.x6 : Int), .int .u8 (t0.d.x7 : Int), .int .i64 t0.no, .int .i64 t0.fe, .int .i64 t0.ki, .slice t0.A t0.n t0.c, .slice t0.A' t0.n' t0.c'] 32) := by rw [ht0]; rfl
  rw [hcells]
  have HT2 : Hid (Box t0 (w1.alloc (.cells #[.int .u8 (t0.d.x0 : Int), .int .u8 (t0.d.x1 : Int), .int .u8 (t0.d.x2 : Int), .int .u8 (t0.d.x3 : Int), .int .u8 (t0.d.x4 : Int), .int .u8 (t0.d.x5 : Int), .int .u8 (t0.d.x6 : Int), .int .u8 (t0.d.x7 : Int), .int .i64 t0.no, .int .i64 t0.fe, .int .i64 t0.ki, .slice t0.A t0.n t0.c, .slice t0.A' t0.n' t0.c'] 32)) w1.heap.size) := heap_alloc_new w1 _
  have Hw2 := Lib.hid (Hw1.out.alloc Hw1.out.size (.cells #[.int .u8 (t0.d.x0 : Int), .int .u8 (t0.d.x1 : Int), .int .u8 (t0.d.x2 : Int), .int .u8 (t0.d.x3 : Int), .int .u8 (t0.d.x4 : Int), .int .u8 (t0.d.x5 : Int), .int .u8 (t0.d.x6 : Int), .int .u8 (t0.d.x7 : Int), .int .i64 t0.no, .int .i64 t0.fe, .int .i64 t0.ki, .slice t0.A t0.n t0.c, .slice t0.A' t0.n' t0.c'] 32)); have HA2 := Lib.hid (HA1.out.below (h_one w1 (.cells #[.int .u8 (t0.d.x0 : Int), .int .u8 (t0.d.x1 : Int), .int .u8 (t0.d.x2 : Int), .int .u8 (t0.d.x3 : Int), .int .u8 (t0.d.x4 : Int), .int .u8 (t0.d.x5 : Int), .int .u8 (t0.d.x6 : Int), .int .u8 (t0.d.x7 : Int), .int .i64 t0.no, .int .i64 t0.fe, .int .i64 t0.ki, .slice t0.A t0.n t0.c, .slice t0.A' t0.n' t0.c'] 32)))
  have hz1 := Hw1.out.size
  clear hcells ht0 HA1 Hw1 hz1
  have hz2 : w1.heap.size < (w1.alloc (.cells #[.int .u8 (t0.d.x0 : Int), .int .u8 (t0.d.x1 : Int), .int .u8 (t0.d.x2 : Int), .int .u8 (t0.d.x3 : Int), .int .u8 (t0.d.x4 : Int), .int .u8 (t0.d.x5 : Int), .int .u8 (t0.d.x6 : Int), .int .u8 (t0.d.x7 : Int), .int .i64 t0.no, .int .i64 t0.fe, .int .i64 t0.ki, .slice t0.A t0.n t0.c, .slice t0.A' t0.n' t0.c'] 32)).heap.size := by simp
  generalize w1.alloc (.cells #[.int .u8 (t0.d.x0 : Int), .int .u8 (t0.d.x1 : Int), .int .u8 (t0.d.x2 : Int), .int .u8 (t0.d.x3 : Int), .int .u8 (t0.d.x4 : Int), .int .u8 (t0.d.x5 : Int), .int .u8 (t0.d.x6 : Int), .int .u8 (t0.d.x7 : Int), .int .i64 t0.no, .int .i64 t0.fe, .int .i64 t0.ki, .slice t0.A t0.n t0.c, .slice t0.A' t0.n' t0.c'] 32) = w2 at *
  generalize w1.heap.size = b9 at *
  have HAt : Hid (∀ u, Below w.heap.size w u → t0.At u) := Lib.hid (fun u hu => by
    obtain ⟨a0, a1, a2, a3, a4, a5, a6, a7, a8, a9, a10, a11⟩ := E0.out
    exact ⟨by rw [a0]; exact ⟨by decide, by decide, by decide, by decide, by decide, by decide, by decide, by decide⟩, by rw [a4, a5, a10]; exact (Hr.out.below hu (Nat.le_refl _)).more hu.size, by rw [a7, a8, a11]; exact Rd.empty, by rw [a5, a6]; exact hkc, by rw [a8, a9]; exact Nat.le_refl _, by rw [a10]; exact Hlt.out, by rw [a11]; simp, by rw [a5]; omega, by rw [a8]; omega⟩)
  have At2 := Lib.hid (HAt.out w2 Hw2.out)
  obtain ⟨pk, hpk⟩ : ∃ pk, pk = rootD (keysD s 1) 1 := ⟨_, rfl⟩
  have Hpk := Lib.hid hpk
  obtain ⟨q, hq⟩ : ∃ q, q = askedT pk t0.no t0.fe t0.ki t0.bo := ⟨_, rfl⟩
  have Hq := Lib.hid hq
  have Hck : Hid (∀ si : List Nat, si.length ≤ 1024 → checkT t0.no t0.fe t0.ki t0.bo si = 0) := Lib.hid (fun si hsi => by
    obtain ⟨a0, a1, a2, a3, a4, a5, a6, a7, a8, a9, a10, a11⟩ := E0.out
    have h1 := Hnz.out
    have h2 : bo.length = k := by have := At2.out.len1; rw [a10, a5] at this; exact this
    rw [a1, a2, a3, a10]
    unfold checkT
    rw [if_pos (by unfold inT upB; simp only [Bool.and_eq_true, decide_eq_true_eq]; omega), if_neg (by decide)])
  have Htw := Lib.hid (sign_twice s q 1)
  have hna : (Hid (∀ si : List Nat, si.length ≤ 1024 → checkT t0.no t0.fe t0.ki t0.bo si = 0)) := Hck
  have HS1 : Hid (Calls Tryz.prog 5 #[.agg #[.int .u8 (t0.d.x0 : Int), .int .u8 (t0.d.x1 : Int), .int .u8 (t0.d.x2 : Int), .int .u8 (t0.d.x3 : Int), .int .u8 (t0.d.x4 : Int), .int .u8 (t0.d.x5 : Int), .int .u8 (t0.d.x6 : Int), .int .u8 (t0.d.x7 : Int), .int .i64 t0.no, .int .i64 t0.fe, .int .i64 t0.ki, .slice t0.A t0.n t0.c, .slice t0.A' t0.n' t0.c'], .iface 48 (.agg #[.pointer (some ⟨br, 0, none⟩)])] w2 (GivesSr t0 pk q B F T0 T1 br (RingM.new s 1) w2)) := Lib.hid (by
    have h1 := txsignR_any t0 pk w2 At2.out HA2.out Hpk.out (Hck.out [] (by simp)) (by rw [← Hq.out]; exact Htw.out.1)
    rw [← Hq.out] at h1
    exact h1)
  clear hpk hq hna
  obtain ⟨y0, y1, y2, y3, y4, y5, y6, y7, y8, y9, y10, y11, y12⟩ := HT2.out.all
  go_wp2_with fail
  refine HS1.out.mono ?_
  rintro e w3 ⟨ta, F1, rfl, a0, a1, a2, a3, a4, a5, ata, aoff, aring, achg, aF⟩
  have Ea := Lib.hid (And.intro a0 (And.intro a1 (And.intro a2 (And.intro a3 (And.intro a4 a5)))))
  have hT3 : w3.heap[b9]? = some (.cells #[.int .u8 (t0.d.x0 : Int), .int .u8 (t0.d.x1 : Int), .int .u8 (t0.d.x2 : Int), .int .u8 (t0.d.x3 : Int), .int .u8 (t0.d.x4 : Int), .int .u8 (t0.d.x5 : Int), .int .u8 (t0.d.x6 : Int), .int .u8 (t0.d.x7 : Int), .int .i64 t0.no, .int .i64 t0.fe, .int .i64 t0.ki, .slice t0.A t0.n t0.c, .slice t0.A' t0.n' t0.c'] 32 (0, 0)) := (achg.block b9 (block_lt HT2.out) (fun hf => by have := (HFl.out _ hf).2; omega)).trans HT2.out
  have Hw3 : Hid (Below w.heap.size w w3) := Lib.hid (Hw2.out.trans (achg.below (fun z hz => (HFl.out z hz).1) Hw2.out.size))
  have HF1 : Hid (∀ z, F1 z → w.heap.size ≤ z ∧ z ≠ b9 ∧ z < w3.heap.size) := Lib.hid (fun z hz => by
    have h1 := Hw2.out.size
    have h2 := (aring.foot_lt z (.inl hz)).2
    rcases aF z hz with h | h
    · have := HFl.out z h; omega
    · omega)
  have HA3 := Lib.hid aring; have Hat3 := Lib.hid ata; have Hoff3 := Lib.hid aoff
  have HT3 : Hid (Box t0 w3 b9) := hT3
  clear a0 a1 a2 a3 a4 a5 ata aoff aring achg aF hT3 y0 y1 y2 y3 y4 y5 y6 y7 y8 y9 y10 y11 y12 HS1
  have y0 := block_lt HT3.out
  go_upto_region 6 with fail
  have HT4 : Hid (Box t0 (w3.alloc (.cells #[.int .u8 (ta.d.x0 : Int), .int .u8 (ta.d.x1 : Int), .int .u8 (ta.d.x2 : Int), .int .u8 (ta.d.x3 : Int), .int .u8 (ta.d.x4 : Int), .int .u8 (ta.d.x5 : Int), .int .u8 (ta.d.x6 : Int), .int .u8 (ta.d.x7 : Int), .int .i64 ta.no, .int .i64 ta.fe, .int .i64 ta.ki, .slice ta.A ta.n ta.c, .slice ta.A' ta.n' ta.c'] 32)) b9) := block_alloc HT3.out _
  have HU4 : Hid (Box ta (w3.alloc (.cells #[.int .u8 (ta.d.x0 : Int), .int .u8 (ta.d.x1 : Int), .int .u8 (ta.d.x2 : Int), .int .u8 (ta.d.x3 : Int), .int .u8 (ta.d.x4 : Int), .int .u8 (ta.d.x5 : Int), .int .u8 (ta.d.x6 : Int), .int .u8 (ta.d.x7 : Int), .int .i64 ta.no, .int .i64 ta.fe, .int .i64 ta.ki, .slice ta.A ta.n ta.c, .slice ta.A' ta.n' ta.c'] 32)) w3.heap.size) := heap_alloc_new w3 _
  have Hw4 := Lib.hid (Hw3.out.alloc Hw3.out.size (.cells #[.int .u8 (ta.d.x0 : Int), .int .u8 (ta.d.x1 : Int), .int .u8 (ta.d.x2 : Int), .int .u8 (ta.d.x3 : Int), .int .u8 (ta.d.x4 : Int), .int .u8 (ta.d.x5 : Int), .int .u8 (ta.d.x6 : Int), .int .u8 (ta.d.x7 : Int), .int .i64 ta.no, .int .i64 ta.fe, .int .i64 ta.ki, .slice ta.A ta.n ta.c, .slice ta.A' ta.n' ta.c'] 32)); have HA4 := Lib.hid (HA3.out.below (h_one w3 (.cells #[.int .u8 (ta.d.x0 : Int), .int .u8 (ta.d.x1 : Int), .int .u8 (ta.d.x2 : Int), .int .u8 (ta.d.x3 : Int), .int .u8 (ta.d.x4 : Int), .int .u8 (ta.d.x5 : Int), .int .u8 (ta.d.x6 : Int), .int .u8 (ta.d.x7 : Int), .int .i64 ta.no, .int .i64 ta.fe, .int .i64 ta.ki, .slice ta.A ta.n ta.c, .slice ta.A' ta.n' ta.c'] 32))); have Hoff4 := Lib.hid (Hoff3.out.below (h_one w3 (.cells #[.int .u8 (ta.d.x0 : Int), .int .u8 (ta.d.x1 : Int), .int .u8 (ta.d.x2 : Int), .int .u8 (ta.d.x3 : Int), .int .u8 (ta.d.x4 : Int), .int .u8 (ta.d.x5 : Int), .int .u8 (ta.d.x6 : Int), .int .u8 (ta.d.x7 : Int), .int .i64 ta.no, .int .i64 ta.fe, .int .i64 ta.ki, .slice ta.A ta.n ta.c, .slice ta.A' ta.n' ta.c'] 32))); have Hat4 := Lib.hid (Hat3.out.up (h_one w3 (.cells #[.int .u8 (ta.d.x0 : Int), .int .u8 (ta.d.x1 : Int), .int .u8 (ta.d.x2 : Int), .int .u8 (ta.d.x3 : Int), .int .u8 (ta.d.x4 : Int), .int .u8 (ta.d.x5 : Int), .int .u8 (ta.d.x6 : Int), .int .u8 (ta.d.x7 : Int), .int .i64 ta.no, .int .i64 ta.fe, .int .i64 ta.ki, .slice ta.A ta.n ta.c, .slice ta.A' ta.n' ta.c'] 32)))
  have HF2 : Hid (∀ z, F1 z → w.heap.size ≤ z ∧ z ≠ b9 ∧ z ≠ w3.heap.size) := Lib.hid (fun z hz => by have := HF1.out z hz; omega)
  have hz4 : w3.heap.size < (w3.alloc (.cells #[.int .u8 (ta.d.x0 : Int), .int .u8 (ta.d.x1 : Int), .int .u8 (ta.d.x2 : Int), .int .u8 (ta.d.x3 : Int), .int .u8 (ta.d.x4 : Int), .int .u8 (ta.d.x5 : Int), .int .u8 (ta.d.x6 : Int), .int .u8 (ta.d.x7 : Int), .int .i64 ta.no, .int .i64 ta.fe, .int .i64 ta.ki, .slice ta.A ta.n ta.c, .slice ta.A' ta.n' ta.c'] 32)).heap.size := by simp
  clear HT3 Hw3 HA3 Hoff3 Hat3 y0
  generalize w3.alloc (.cells #[.int .u8 (ta.d.x0 : Int), .int .u8 (ta.d.x1 : Int), .int .u8 (ta.d.x2 : Int), .int .u8 (ta.d.x3 : Int), .int .u8 (ta.d.x4 : Int), .int .u8 (ta.d.x5 : Int), .int .u8 (ta.d.x6 : Int), .int .u8 (ta.d.x7 : Int), .int .i64 ta.no, .int .i64 ta.fe, .int .i64 ta.ki, .slice ta.A ta.n ta.c, .slice ta.A' ta.n' ta.c'] 32) = w4 at *
  clear HF1
  generalize w3.heap.size = b10 at *
  have HS2 : Hid (Calls Tryz.prog 5 #[.agg #[.int .u8 (t0.d.x0 : Int), .int .u8 (t0.d.x1 : Int), .int .u8 (t0.d.x2 : Int), .int .u8 (t0.d.x3 : Int), .int .u8 (t0.d.x4 : Int), .int .u8 (t0.d.x5 : Int), .int .u8 (t0.d.x6 : Int), .int .u8 (t0.d.x7 : Int), .int .i64 t0.no, .int .i64 t0.fe, .int .i64 t0.ki, .slice t0.A t0.n t0.c, .slice t0.A' t0.n' t0.c'], .iface 48 (.agg #[.pointer (some ⟨br, 0, none⟩)])] w4 (GivesSr t0 pk q B F1 T0 T1 br ((RingM.new s 1).sign q).1 w4)) := Lib.hid (by
    obtain ⟨T1, T2, T3, T4⟩ := Htw.out
    have h1 := txsignR_any t0 pk w4 (HAt.out w4 Hw4.out) HA4.out (by rw [T2, T3]; exact Hpk.out) (Hck.out [] (by simp)) (by rw [← Hq.out, T4])
    rw [← Hq.out] at h1
    exact h1)
  obtain ⟨y0, y1, y2, y3, y4, y5, y6, y7, y8, y9, y10, y11, y12⟩ := HT4.out.all
  have hlt9 := block_lt HT4.out
  go_wp2_with fail
  refine HS2.out.mono ?_
  rintro e w5 ⟨tb, F2, rfl, a0, a1, a2, a3, a4, a5, ata, aoff, aring, achg, aF⟩
  have Eb := Lib.hid (And.intro a0 (And.intro a1 (And.intro a2 (And.intro a3 (And.intro a4 a5)))))
  have HT5 : Hid (Box t0 w5 b9) := (achg.block b9 (block_lt HT4.out) (fun hf => (HF2.out _ hf).2.1 rfl)).trans HT4.out
  have HU5 : Hid (Box ta w5 b10) := (achg.block b10 (block_lt HU4.out) (fun hf => (HF2.out _ hf).2.2 rfl)).trans HU4.out
  have Hw5 : Hid (Below w.heap.size w w5) := Lib.hid (Hw4.out.trans (achg.below (fun z hz => (HF2.out z hz).1) Hw4.out.size))
  have Hata5 := Lib.hid (Hat4.out.owned (Hoff4.out.chg achg))
  have HA5 := Lib.hid aring; have Hatb5 := Lib.hid ata
  clear a0 a1 a2 a3 a4 a5 ata aoff aring achg aF y0 y1 y2 y3 y4 y5 y6 y7 y8 y9 y10 y11 y12 HS2 HT4 HU4 Hw4 Hat4 Hoff4 HA4 hlt9 hz4
  have y0 := block_lt HT5.out; have y1 := block_lt HU5.out
  go_upto_region 7 with fail
  have HT6 : Hid (Box t0 (w5.alloc (.cells #[.int .u8 (tb.d.x0 : Int), .int .u8 (tb.d.x1 : Int), .int .u8 (tb.d.x2 : Int), .int .u8 (tb.d.x3 : Int), .int .u8 (tb.d.x4 : Int), .int .u8 (tb.d.x5 : Int), .int .u8 (tb.d.x6 : Int), .int .u8 (tb.d.x7 : Int), .int .i64 tb.no, .int .i64 tb.fe, .int .i64 tb.ki, .slice tb.A tb.n tb.c, .slice tb.A' tb.n' tb.c'] 32)) b9) := block_alloc HT5.out _
  have HU6 : Hid (Box ta (w5.alloc (.cells #[.int .u8 (tb.d.x0 : Int), .int .u8 (tb.d.x1 : Int), .int .u8 (tb.d.x2 : Int), .int .u8 (tb.d.x3 : Int), .int .u8 (tb.d.x4 : Int), .int .u8 (tb.d.x5 : Int), .int .u8 (tb.d.x6 : Int), .int .u8 (tb.d.x7 : Int), .int .i64 tb.no, .int .i64 tb.fe, .int .i64 tb.ki, .slice tb.A tb.n tb.c, .slice tb.A' tb.n' tb.c'] 32)) b10) := block_alloc HU5.out _
  have HV6 : Hid (Box tb (w5.alloc (.cells #[.int .u8 (tb.d.x0 : Int), .int .u8 (tb.d.x1 : Int), .int .u8 (tb.d.x2 : Int), .int .u8 (tb.d.x3 : Int), .int .u8 (tb.d.x4 : Int), .int .u8 (tb.d.x5 : Int), .int .u8 (tb.d.x6 : Int), .int .u8 (tb.d.x7 : Int), .int .i64 tb.no, .int .i64 tb.fe, .int .i64 tb.ki, .slice tb.A tb.n tb.c, .slice tb.A' tb.n' tb.c'] 32)) w5.heap.size) := heap_alloc_new w5 _
  have hb := h_one w5 (.cells #[.int .u8 (tb.d.x0 : Int), .int .u8 (tb.d.x1 : Int), .int .u8 (tb.d.x2 : Int), .int .u8 (tb.d.x3 : Int), .int .u8 (tb.d.x4 : Int), .int .u8 (tb.d.x5 : Int), .int .u8 (tb.d.x6 : Int), .int .u8 (tb.d.x7 : Int), .int .i64 tb.no, .int .i64 tb.fe, .int .i64 tb.ki, .slice tb.A tb.n tb.c, .slice tb.A' tb.n' tb.c'] 32)
  have Hw6 := Lib.hid (Hw5.out.alloc Hw5.out.size (.cells #[.int .u8 (tb.d.x0 : Int), .int .u8 (tb.d.x1 : Int), .int .u8 (tb.d.x2 : Int), .int .u8 (tb.d.x3 : Int), .int .u8 (tb.d.x4 : Int), .int .u8 (tb.d.x5 : Int), .int .u8 (tb.d.x6 : Int), .int .u8 (tb.d.x7 : Int), .int .i64 tb.no, .int .i64 tb.fe, .int .i64 tb.ki, .slice tb.A tb.n tb.c, .slice tb.A' tb.n' tb.c'] 32)); have HA6 := Lib.hid (HA5.out.below hb); have Hata6 := Lib.hid (Hata5.out.up hb); have Hatb6 := Lib.hid (Hatb5.out.up hb)
  clear HT5 HU5 Hw5 HA5 Hata5 Hatb5 y0 y1 hb
  generalize w5.alloc (.cells #[.int .u8 (tb.d.x0 : Int), .int .u8 (tb.d.x1 : Int), .int .u8 (tb.d.x2 : Int), .int .u8 (tb.d.x3 : Int), .int .u8 (tb.d.x4 : Int), .int .u8 (tb.d.x5 : Int), .int .u8 (tb.d.x6 : Int), .int .u8 (tb.d.x7 : Int), .int .i64 tb.no, .int .i64 tb.fe, .int .i64 tb.ki, .slice tb.A tb.n tb.c, .slice tb.A' tb.n' tb.c'] 32) = w6 at *
  generalize w5.heap.size = b12 at *
  obtain ⟨y0, y1, y2, y3, y4, y5, y6, y7, y8, y9, y10, y11, y12⟩ := HT6.out.all
  have hlt9 := block_lt HT6.out
  go_wp2_with fail
  refine (txsignN_any t0 w6).mono ?_
  rintro e w7 ⟨rfl, hb⟩
  have HU7 := Lib.hid (HU6.out.below hb); have HV7 := Lib.hid (HV6.out.below hb); have HA7 := Lib.hid (HA6.out.below hb); have Hata7 := Lib.hid (Hata6.out.up hb); have Hatb7 := Lib.hid (Hatb6.out.up hb); have Hw7 := Lib.hid (Hw6.out.trans (hb.mono Hw6.out.size))
  clear hb y0 y1 y2 y3 y4 y5 y6 y7 y8 y9 y10 y11 y12 hlt9 HT6 HU6 HV6 HA6 Hata6 Hatb6 Hw6
  have y0 := block_lt HU7.out; have y1 := block_lt HV7.out
  go_upto_region 8 with fail
  have HU8 : Hid (Box ta (w7.alloc (.cells #[.int .u8 (txZ.d.x0 : Int), .int .u8 (txZ.d.x1 : Int), .int .u8 (txZ.d.x2 : Int), .int .u8 (txZ.d.x3 : Int), .int .u8 (txZ.d.x4 : Int), .int .u8 (txZ.d.x5 : Int), .int .u8 (txZ.d.x6 : Int), .int .u8 (txZ.d.x7 : Int), .int .i64 txZ.no, .int .i64 txZ.fe, .int .i64 txZ.ki, .slice txZ.A txZ.n txZ.c, .slice txZ.A' txZ.n' txZ.c'] 32)) b10) := block_alloc HU7.out _
  have HV8 : Hid (Box tb (w7.alloc (.cells #[.int .u8 (txZ.d.x0 : Int), .int .u8 (txZ.d.x1 : Int), .int .u8 (txZ.d.x2 : Int), .int .u8 (txZ.d.x3 : Int), .int .u8 (txZ.d.x4 : Int), .int .u8 (txZ.d.x5 : Int), .int .u8 (txZ.d.x6 : Int), .int .u8 (txZ.d.x7 : Int), .int .i64 txZ.no, .int .i64 txZ.fe, .int .i64 txZ.ki, .slice txZ.A txZ.n txZ.c, .slice txZ.A' txZ.n' txZ.c'] 32)) b12) := block_alloc HV7.out _
  have HZ8 : Hid (Box txZ (w7.alloc (.cells #[.int .u8 (txZ.d.x0 : Int), .int .u8 (txZ.d.x1 : Int), .int .u8 (txZ.d.x2 : Int), .int .u8 (txZ.d.x3 : Int), .int .u8 (txZ.d.x4 : Int), .int .u8 (txZ.d.x5 : Int), .int .u8 (txZ.d.x6 : Int), .int .u8 (txZ.d.x7 : Int), .int .i64 txZ.no, .int .i64 txZ.fe, .int .i64 txZ.ki, .slice txZ.A txZ.n txZ.c, .slice txZ.A' txZ.n' txZ.c'] 32)) w7.heap.size) := heap_alloc_new w7 _
  have hb := h_one w7 (.cells #[.int .u8 (txZ.d.x0 : Int), .int .u8 (txZ.d.x1 : Int), .int .u8 (txZ.d.x2 : Int), .int .u8 (txZ.d.x3 : Int), .int .u8 (txZ.d.x4 : Int), .int .u8 (txZ.d.x5 : Int), .int .u8 (txZ.d.x6 : Int), .int .u8 (txZ.d.x7 : Int), .int .i64 txZ.no, .int .i64 txZ.fe, .int .i64 txZ.ki, .slice txZ.A txZ.n txZ.c, .slice txZ.A' txZ.n' txZ.c'] 32)
  have Hw8 := Lib.hid (Hw7.out.alloc Hw7.out.size (.cells #[.int .u8 (txZ.d.x0 : Int), .int .u8 (txZ.d.x1 : Int), .int .u8 (txZ.d.x2 : Int), .int .u8 (txZ.d.x3 : Int), .int .u8 (txZ.d.x4 : Int), .int .u8 (txZ.d.x5 : Int), .int .u8 (txZ.d.x6 : Int), .int .u8 (txZ.d.x7 : Int), .int .i64 txZ.no, .int .i64 txZ.fe, .int .i64 txZ.ki, .slice txZ.A txZ.n txZ.c, .slice txZ.A' txZ.n' txZ.c'] 32)); have HA8 := Lib.hid (HA7.out.below hb); have Hata8 := Lib.hid (Hata7.out.up hb); have Hatb8 := Lib.hid (Hatb7.out.up hb)
  clear HU7 HV7 Hw7 HA7 Hata7 Hatb7 y0 y1 hb
  generalize w7.alloc (.cells #[.int .u8 (txZ.d.x0 : Int), .int .u8 (txZ.d.x1 : Int), .int .u8 (txZ.d.x2 : Int), .int .u8 (txZ.d.x3 : Int), .int .u8 (txZ.d.x4 : Int), .int .u8 (txZ.d.x5 : Int), .int .u8 (txZ.d.x6 : Int), .int .u8 (txZ.d.x7 : Int), .int .i64 txZ.no, .int .i64 txZ.fe, .int .i64 txZ.ki, .slice txZ.A txZ.n txZ.c, .slice txZ.A' txZ.n' txZ.c'] 32) = w8 at *
  generalize w7.heap.size = b14 at *
  have hlU := block_lt HU8.out; have hlV := block_lt HV8.out; have hlZ := block_lt HZ8.out
  obtain ⟨Va, hVa⟩ : ∃ V : Value, V = .agg #[.int .u8 (ta.d.x0 : Int), .int .u8 (ta.d.x1 : Int), .int .u8 (ta.d.x2 : Int), .int .u8 (ta.d.x3 : Int), .int .u8 (ta.d.x4 : Int), .int .u8 (ta.d.x5 : Int), .int .u8 (ta.d.x6 : Int), .int .u8 (ta.d.x7 : Int), .int .i64 ta.no, .int .i64 ta.fe, .int .i64 ta.ki, .slice ta.A ta.n ta.c, .slice ta.A' ta.n' ta.c'] := ⟨_, rfl⟩
  obtain ⟨Vb, hVb⟩ : ∃ V : Value, V = .agg #[.int .u8 (tb.d.x0 : Int), .int .u8 (tb.d.x1 : Int), .int .u8 (tb.d.x2 : Int), .int .u8 (tb.d.x3 : Int), .int .u8 (tb.d.x4 : Int), .int .u8 (tb.d.x5 : Int), .int .u8 (tb.d.x6 : Int), .int .u8 (tb.d.x7 : Int), .int .i64 tb.no, .int .i64 tb.fe, .int .i64 tb.ki, .slice tb.A tb.n tb.c, .slice tb.A' tb.n' tb.c'] := ⟨_, rfl⟩
  obtain ⟨Vc, hVc⟩ : ∃ V : Value, V = .agg #[.int .u8 (txZ.d.x0 : Int), .int .u8 (txZ.d.x1 : Int), .int .u8 (txZ.d.x2 : Int), .int .u8 (txZ.d.x3 : Int), .int .u8 (txZ.d.x4 : Int), .int .u8 (txZ.d.x5 : Int), .int .u8 (txZ.d.x6 : Int), .int .u8 (txZ.d.x7 : Int), .int .i64 txZ.no, .int .i64 txZ.fe, .int .i64 txZ.ki, .slice txZ.A txZ.n txZ.c, .slice txZ.A' txZ.n' txZ.c'] := ⟨_, rfl⟩
  have hl10 : ∀ w', Below w8.heap.size w8 w' → (Instr.loadAt 32 (.pointer (some ⟨b10, 0, none⟩))).run Tryz.prog w' = .ok Va w' := fun w' hw => by rw [hVa]; exact loadX (HU8.out.below hw)
  have hl12 : ∀ w', Below w8.heap.size w8 w' → (Instr.loadAt 32 (.pointer (some ⟨b12, 0, none⟩))).run Tryz.prog w' = .ok Vb w' := fun w' hw => by rw [hVb]; exact loadX (HV8.out.below hw)
  have hl14 : ∀ w', Below w8.heap.size w8 w' → (Instr.loadAt 32 (.pointer (some ⟨b14, 0, none⟩))).run Tryz.prog w' = .ok Vc w' := fun w' hw => by rw [hVc]; exact loadX (HZ8.out.below hw)
  have hd10 : ∀ w', Below w8.heap.size w8 w' → (Instr.loadAt 30 (.pointer (some ⟨b10, 0, none⟩))).run Tryz.prog w' = .ok (.agg #[.int .u8 (pk.x0 : Int), .int .u8 (pk.x1 : Int), .int .u8 (pk.x2 : Int), .int .u8 (pk.x3 : Int), .int .u8 (pk.x4 : Int), .int .u8 (pk.x5 : Int), .int .u8 (pk.x6 : Int), .int .u8 (pk.x7 : Int)]) w' := fun w' hw => by
    have hx := HU8.out.below hw
    have e0 : ta.d = pk := Ea.out.1
    obtain ⟨x0, x1, x2, x3, x4, x5, x6, x7, _⟩ := hx.all
    rw [e0] at x0 x1 x2 x3 x4 x5 x6 x7
    clear hl10 hl12 hl14
    go_simp
  have hC7 := Lib.hid (fun (u : World) (hu : Below w8.heap.size w8 u) => show Calls Tryz.prog 7 #[Va, Vb] u fun e w' => e = .returned (.bool true) ∧ Below u.heap.size u w' from by
    have h1 := tsame_any ta tb u (Hata8.out.up hu) (Hatb8.out.up hu)
    rw [hVa, hVb]
    rw [show sameT ta tb = true from by
      obtain ⟨a0, a1, a2, a3, a4, a5⟩ := Ea.out
      obtain ⟨b0, b1, b2, b3, b4, b5⟩ := Eb.out
      rw [sameT_iff, a0, a1, a2, a3, a4, a5, b0, b1, b2, b3, b4, b5]
      obtain ⟨T1, T2, T3, T4⟩ := Htw.out
      rw [T4]
      exact ⟨rfl, rfl, rfl, rfl, rfl, rfl⟩] at h1
    exact h1)
  have hCz := Lib.hid (fun (u : World) => show Calls Tryz.prog 7 #[Vc, .agg #[.int .u8 0, .int .u8 0, .int .u8 0, .int .u8 0, .int .u8 0, .int .u8 0, .int .u8 0, .int .u8 0, .int .i64 0, .int .i64 0, .int .i64 0, .slice none 0 0, .slice none 0 0]] u fun e w' => e = .returned (.bool true) ∧ Below u.heap.size u w' from by
    have h1 := tsame_any txZ txZ u (txZ_at u) (txZ_at u)
    rw [hVc]
    rw [show sameT txZ txZ = true from sameT_iff.2 ⟨rfl, rfl, rfl, rfl, rfl, rfl⟩] at h1
    exact h1)
  have hsl := sign_len (show (RingM.new s 1).ok from ⟨Hs.out, (show (1 : Nat) ≤ 8 by decide), List.nodup_nil, by simp [RingM.new], by simp [RingM.new]⟩) q
  have hCk : Hid (checkT ta.no ta.fe ta.ki ta.bo ta.si = 0) := Lib.hid (by
    obtain ⟨a0, a1, a2, a3, a4, a5⟩ := Ea.out
    rw [a1, a2, a3, a4, a5]
    exact Hck.out _ (by omega))
  have hCr := Lib.hid (fun (u : World) (hu : Below w8.heap.size w8 u) => show Calls Tryz.prog 8 #[Va, .iface 40 (.agg #[])] u fun e w' => e = .returned (.int .i64 0) ∧ Below u.heap.size u w' from by
    have h1 := txverifyR_any ta u (Hata8.out.up hu)
    rw [hVa]
    rw [show verTR ta = 0 from by
      obtain ⟨a0, a1, a2, a3, a4, a5⟩ := Ea.out
      unfold verTR
      rw [if_pos hCk.out, a0, a1, a2, a3, a4, a5, ← Hq.out, Hpk.out]
      have hv : verifyN (rootD (keysD s 1) 1) q ((RingM.new s 1).sign q).2.1 = true := verify_sign (r := RingM.new s 1) ⟨Hs.out, (show (1 : Nat) ≤ 8 by decide), List.nodup_nil, by simp [RingM.new], by simp [RingM.new]⟩ (m := q) (by rw [Hq.out]; exact hashWord_ok _ _) Htw.out.1
      rw [if_pos hv]] at h1
    exact h1)
  have hCb := Lib.hid (fun (u : World) (B2 bk mb : Nat) (hu : Below w8.heap.size w8 u) (hB : BookAt u B2 bk mb []) => show Calls Tryz.prog 8 #[Va, .iface 41 (.pointer (some ⟨bk, 0, none⟩))] u fun e w' => e = .returned (.int .i64 16) ∧ Below u.heap.size u w' from by
    have h1 := txverify_any ta B2 bk mb [] u (Hata8.out.up hu) hB (by decide)
    rw [hVa]
    rw [show verT [] ta = 16 from by
      unfold verT
      rw [if_pos hCk.out]
      rfl] at h1
    exact h1)
  have hKy := Lib.hid (fun (u : World) (hu : Below w8.heap.size w8 u) => show Calls Tryz.prog 115 #[.agg #[.pointer (some ⟨br, 0, none⟩)]] u fun e w' => e = .returned (.agg #[.int .u8 (pk.x0 : Int), .int .u8 (pk.x1 : Int), .int .u8 (pk.x2 : Int), .int .u8 (pk.x3 : Int), .int .u8 (pk.x4 : Int), .int .u8 (pk.x5 : Int), .int .u8 (pk.x6 : Int), .int .u8 (pk.x7 : Int)]) ∧ Below u.heap.size u w' from by
    have h1 := rkey_any (HA8.out.below hu)
    rw [sign_ring, (RingM.reserve_secret _ _).1, (RingM.reserve_secret _ _).2, Htw.out.2.1, Htw.out.2.2.1, ← Hpk.out] at h1
    exact h1)
  have hG : ∀ (x y : Operand) u, (eqGuard .eql 30 x y (.agg #[.int .u8 (pk.x0 : Int), .int .u8 (pk.x1 : Int), .int .u8 (pk.x2 : Int), .int .u8 (pk.x3 : Int), .int .u8 (pk.x4 : Int), .int .u8 (pk.x5 : Int), .int .u8 (pk.x6 : Int), .int .u8 (pk.x7 : Int)]) (.agg #[.int .u8 (pk.x0 : Int), .int .u8 (pk.x1 : Int), .int .u8 (pk.x2 : Int), .int .u8 (pk.x3 : Int), .int .u8 (pk.x4 : Int), .int .u8 (pk.x5 : Int), .int .u8 (pk.x6 : Int), .int .u8 (pk.x7 : Int)])).run Tryz.prog u = .ok () u := fun x y u => by first | (go_simp; done) | exact run_eqGuard_agg _ _ _ _ _ _ (by kernel_rfl)
  have hE : ∀ u, (binOp .eql 30 (.agg #[.int .u8 (pk.x0 : Int), .int .u8 (pk.x1 : Int), .int .u8 (pk.x2 : Int), .int .u8 (pk.x3 : Int), .int .u8 (pk.x4 : Int), .int .u8 (pk.x5 : Int), .int .u8 (pk.x6 : Int), .int .u8 (pk.x7 : Int)]) (.agg #[.int .u8 (pk.x0 : Int), .int .u8 (pk.x1 : Int), .int .u8 (pk.x2 : Int), .int .u8 (pk.x3 : Int), .int .u8 (pk.x4 : Int), .int .u8 (pk.x5 : Int), .int .u8 (pk.x6 : Int), .int .u8 (pk.x7 : Int)])).run Tryz.prog u = .ok (.bool true) u := fun u => by
    have h1 : (binOp .eql 30 (.agg #[.int .u8 (pk.x0 : Int), .int .u8 (pk.x1 : Int), .int .u8 (pk.x2 : Int), .int .u8 (pk.x3 : Int), .int .u8 (pk.x4 : Int), .int .u8 (pk.x5 : Int), .int .u8 (pk.x6 : Int), .int .u8 (pk.x7 : Int)]) (.agg #[.int .u8 (pk.x0 : Int), .int .u8 (pk.x1 : Int), .int .u8 (pk.x2 : Int), .int .u8 (pk.x3 : Int), .int .u8 (pk.x4 : Int), .int .u8 (pk.x5 : Int), .int .u8 (pk.x6 : Int), .int .u8 (pk.x7 : Int)])).run Tryz.prog u = .ok (.bool (sameD pk pk)) u := eql_dig _ _ _ _ _ _ _ _ _ _ _ _ _ _ _ _ u
    rw [h1, sameD_iff.2 rfl]
  have hke := meth_rkey br
  rw [types_manyT] at hke
  have Hb8 := Lib.hid (show Below w8.heap.size w8 w8.drew from (Below.refl _ _).drew)
  have hS1 := Hb8.out
  clear hsl hVa hVb hVc HU8 HV8 HZ8 Hata8 Hatb8 HA8 Ea Eb hCk hlU hlV hlZ E0 Hck Htw HAt Hq Hpk Hlt Hr hr1 hk20 hkc
  refine wp_region_held_drew (S := fun w' => Below w8.heap.size w8 w') (by kernel_rfl) hS1 (fun hHeld => ?_)
  rw [show Array.replicate _ false = (#[false, false, false, false, false, false, false, false, false, false, false, false, false, false, false, false, false, false, false, false, false, false, false, false, false, false, false, false, false, false, false, false, false, false, false, false, false, false, false, false, false, false, false, false, false] : Array Bool) from rfl]
  generalize w8.drew = u0 at *
  refine wpAnyH_ready (rs := [0]) (by kernel_rfl) (by simp) ?_
  refine AllReadyH.cons rfl (fun K hK => ?_) AllReadyH.nil
  rw [if_pos (by kernel_rfl)]
  go_simp
  refine (tknown_any u0).mono ?_
  rintro e u1 ⟨rfl, hb⟩
  have Hb1 := Lib.hid (Hb8.out.trans (hb.mono Hb8.out.size))
  clear hb
  refine hK.out _ _ Hb1.out (fun _ => ?_)
  clear hK K hS1
  simp only [List.setIfInBounds_toArray, List.set_cons_zero]
  have hS1 := Hb1.out
  refine takeH 1 (some 53) (v := ?_) rfl (by kernel_rfl) (by kernel_rfl) (by kernel_rfl) (by kernel_rfl) (fun _ _ _ h => h) (Or.inl ⟨by kernel_rfl, ?hy⟩) (by assumption) ?_
  case hy =>
    intro w' hSw
    clear hSw
    first
      | (go_simp; done)
      | (go_simp; with_reducible rfl)
  simp only [Act.put, List.setIfInBounds_toArray, List.set_cons_zero, List.set_cons_succ]
  refine takeH 2 (some 54) (v := ?_) rfl (by kernel_rfl) (by kernel_rfl) (by kernel_rfl) (by kernel_rfl) (fun _ _ _ h => h) (Or.inl ⟨by kernel_rfl, ?hy⟩) (by assumption) ?_
  case hy =>
    intro w' hSw
    clear hSw
    first
      | (go_simp; done)
      | (go_simp; with_reducible rfl)
  simp only [Act.put, List.setIfInBounds_toArray, List.set_cons_zero, List.set_cons_succ]
  refine takeH 3 (some 55) (v := ?_) rfl (by kernel_rfl) (by kernel_rfl) (by kernel_rfl) (by kernel_rfl) (fun _ _ _ h => h) (Or.inl ⟨by kernel_rfl, ?hy⟩) (by assumption) ?_
  case hy =>
    intro w' hSw
    clear hSw
    first
      | (go_simp; done)
      | (go_simp; with_reducible rfl)
  simp only [Act.put, List.setIfInBounds_toArray, List.set_cons_zero, List.set_cons_succ]
  refine takeH 4 (some 56) (v := ?_) rfl (by kernel_rfl) (by kernel_rfl) (by kernel_rfl) (by kernel_rfl) (fun _ _ _ h => h) (Or.inl ⟨by kernel_rfl, ?hy⟩) (by assumption) ?_
  case hy =>
    intro w' hSw
    clear hSw
    first
      | (go_simp; done)
      | (go_simp; with_reducible rfl)
  simp only [Act.put, List.setIfInBounds_toArray, List.set_cons_zero, List.set_cons_succ]
  refine takeH 5 (some 57) (v := ?_) rfl (by kernel_rfl) (by kernel_rfl) (by kernel_rfl) (by kernel_rfl) (fun _ _ _ h => h) (Or.inl ⟨by kernel_rfl, ?hy⟩) (by assumption) ?_
  case hy =>
    intro w' hSw
    clear hSw
    first
      | (go_simp; done)
      | (go_simp; with_reducible rfl)
  simp only [Act.put, List.setIfInBounds_toArray, List.set_cons_zero, List.set_cons_succ]
  refine takeH 6 (some 58) (v := ?_) rfl (by kernel_rfl) (by kernel_rfl) (by kernel_rfl) (by kernel_rfl) (fun _ _ _ h => h) (Or.inl ⟨by kernel_rfl, ?hy⟩) (by assumption) ?_
  case hy =>
    intro w' hSw
    clear hSw
    first
      | (go_simp; done)
      | (go_simp; with_reducible rfl)
  simp only [Act.put, List.setIfInBounds_toArray, List.set_cons_zero, List.set_cons_succ]
  refine takeH 7 (some 59) (v := ?_) rfl (by kernel_rfl) (by kernel_rfl) (by kernel_rfl) (by kernel_rfl) (fun _ _ _ h => h) (Or.inl ⟨by kernel_rfl, ?hy⟩) (by assumption) ?_
  case hy =>
    intro w' hSw
    clear hSw
    first
      | (go_simp; done)
      | (go_simp; with_reducible rfl)
  simp only [Act.put, List.setIfInBounds_toArray, List.set_cons_zero, List.set_cons_succ]
  refine takeH 8 (some 60) (v := ?_) rfl (by kernel_rfl) (by kernel_rfl) (by kernel_rfl) (by kernel_rfl) (fun _ _ _ h => h) (Or.inl ⟨by kernel_rfl, ?hy⟩) (by assumption) ?_
  case hy =>
    intro w' hSw
    clear hSw
    first
      | (go_simp; done)
      | (go_simp; with_reducible rfl)
  simp only [Act.put, List.setIfInBounds_toArray, List.set_cons_zero, List.set_cons_succ]
  refine takeH 9 (some 61) (v := ?_) rfl (by kernel_rfl) (by kernel_rfl) (by kernel_rfl) (by kernel_rfl) (fun _ _ _ h => h) (Or.inl ⟨by kernel_rfl, ?hy⟩) (by assumption) ?_
  case hy =>
    intro w' hSw
    clear hSw
    first
      | (go_simp; done)
      | (go_simp; with_reducible rfl)
  simp only [Act.put, List.setIfInBounds_toArray, List.set_cons_zero, List.set_cons_succ]
  refine takeH 10 (some 62) (v := Va) rfl (by kernel_rfl) (by kernel_rfl) (by kernel_rfl) (by kernel_rfl) (fun _ _ _ h => h) (Or.inl ⟨by kernel_rfl, ?hy⟩) (by assumption) ?_
  case hy =>
    intro w' hSw
    simp [execOp, Act.eval, hl10 w' hSw, Result.andThen]
  simp only [Act.put, List.setIfInBounds_toArray, List.set_cons_zero, List.set_cons_succ]
  refine takeH 11 (some 63) (v := Vb) rfl (by kernel_rfl) (by kernel_rfl) (by kernel_rfl) (by kernel_rfl) (fun _ _ _ h => h) (Or.inl ⟨by kernel_rfl, ?hy⟩) (by assumption) ?_
  case hy =>
    intro w' hSw
    simp [execOp, Act.eval, hl12 w' hSw, Result.andThen]
  simp only [Act.put, List.setIfInBounds_toArray, List.set_cons_zero, List.set_cons_succ]
  clear hl12 hS1
  refine wpAnyH_ready (rs := [12]) (by kernel_rfl) (by simp) ?_
  refine AllReadyH.cons rfl (fun K hK => ?_) AllReadyH.nil
  rw [if_pos (by kernel_rfl)]
  go_simp
  refine (hC7.out u1 Hb1.out).mono ?_
  rintro e u2 ⟨rfl, hb⟩
  have Hb2 := Lib.hid (Hb1.out.trans (hb.mono Hb1.out.size))
  clear hb
  refine hK.out _ _ Hb2.out (fun _ => ?_)
  clear hK K
  simp only [List.setIfInBounds_toArray, List.set_cons_zero, List.set_cons_succ]
  have hS1 := Hb2.out
  refine takeH 13 (some 65) (v := ?_) rfl (by kernel_rfl) (by kernel_rfl) (by kernel_rfl) (by kernel_rfl) (fun _ _ _ h => h) (Or.inl ⟨by kernel_rfl, ?hy⟩) (by assumption) ?_
  case hy =>
    intro w' hSw
    clear hSw
    first
      | (go_simp; done)
      | (go_simp; with_reducible rfl)
  simp only [Act.put, List.setIfInBounds_toArray, List.set_cons_zero, List.set_cons_succ]
  refine takeH 14 (some 66) (v := ?_) rfl (by kernel_rfl) (by kernel_rfl) (by kernel_rfl) (by kernel_rfl) (fun _ _ _ h => h) (Or.inl ⟨by kernel_rfl, ?hy⟩) (by assumption) ?_
  case hy =>
    intro w' hSw
    clear hSw
    first
      | (go_simp; done)
      | (go_simp; with_reducible rfl)
  simp only [Act.put, List.setIfInBounds_toArray, List.set_cons_zero, List.set_cons_succ]
  refine takeH 15 (some 67) (v := ?_) rfl (by kernel_rfl) (by kernel_rfl) (by kernel_rfl) (by kernel_rfl) (fun _ _ _ h => h) (Or.inl ⟨by kernel_rfl, ?hy⟩) (by assumption) ?_
  case hy =>
    intro w' hSw
    clear hSw
    first
      | (go_simp; done)
      | (go_simp; with_reducible rfl)
  simp only [Act.put, List.setIfInBounds_toArray, List.set_cons_zero, List.set_cons_succ]
  refine takeH 16 (some 68) (v := .agg #[.int .u8 (pk.x0 : Int), .int .u8 (pk.x1 : Int), .int .u8 (pk.x2 : Int), .int .u8 (pk.x3 : Int), .int .u8 (pk.x4 : Int), .int .u8 (pk.x5 : Int), .int .u8 (pk.x6 : Int), .int .u8 (pk.x7 : Int)]) rfl (by kernel_rfl) (by kernel_rfl) (by kernel_rfl) (by kernel_rfl) (fun _ _ _ h => h) (Or.inl ⟨by kernel_rfl, ?hy⟩) (by assumption) ?_
  case hy =>
    intro w' hSw
    simp [execOp, Act.eval, hd10 w' hSw, Result.andThen]
  simp only [Act.put, List.setIfInBounds_toArray, List.set_cons_zero, List.set_cons_succ]
  refine takeH 17 (some 69) (v := ?_) rfl (by kernel_rfl) (by kernel_rfl) (by kernel_rfl) (by kernel_rfl) (fun _ _ _ h => h) (Or.inl ⟨by kernel_rfl, ?hy⟩) (by assumption) ?_
  case hy =>
    intro w' hSw
    clear hSw
    first
      | (go_simp; done)
      | (go_simp; with_reducible rfl)
  simp only [Act.put, List.setIfInBounds_toArray, List.set_cons_zero, List.set_cons_succ]
  clear hS1
  refine wpAnyH_ready (rs := [18]) (by kernel_rfl) (by simp) ?_
  refine AllReadyH.cons rfl (fun K hK => ?_) AllReadyH.nil
  rw [if_pos (by kernel_rfl)]
  go_simp
  refine (hKy.out u2 Hb2.out).mono ?_
  rintro e u3 ⟨rfl, hb⟩
  have Hb3 := Lib.hid (Hb2.out.trans (hb.mono Hb2.out.size))
  clear hb
  refine hK.out _ _ Hb3.out (fun _ => ?_)
  clear hK K
  simp only [List.setIfInBounds_toArray, List.set_cons_zero, List.set_cons_succ]
  have hS1 := Hb3.out
  refine takeH 19 (some 71) (v := .bool true) rfl (by kernel_rfl) (by kernel_rfl) (by kernel_rfl) (by kernel_rfl) (fun _ _ _ h => h) (Or.inl ⟨by kernel_rfl, fun w' _ => exec_binD (by rfl) (by rfl) (by rfl) (hG _ _ w') (hE w')⟩) (by assumption) ?_
  simp only [Act.put, List.setIfInBounds_toArray, List.set_cons_zero, List.set_cons_succ]
  refine takeH 20 (some 72) (v := ?_) rfl (by kernel_rfl) (by kernel_rfl) (by kernel_rfl) (by kernel_rfl) (fun _ _ _ h => h) (Or.inl ⟨by kernel_rfl, ?hy⟩) (by assumption) ?_
  case hy =>
    intro w' hSw
    clear hSw
    first
      | (go_simp; done)
      | (go_simp; with_reducible rfl)
  simp only [Act.put, List.setIfInBounds_toArray, List.set_cons_zero, List.set_cons_succ]
  refine takeH 21 (some 73) (v := ?_) rfl (by kernel_rfl) (by kernel_rfl) (by kernel_rfl) (by kernel_rfl) (fun _ _ _ h => h) (Or.inl ⟨by kernel_rfl, ?hy⟩) (by assumption) ?_
  case hy =>
    intro w' hSw
    clear hSw
    first
      | (go_simp; done)
      | (go_simp; with_reducible rfl)
  simp only [Act.put, List.setIfInBounds_toArray, List.set_cons_zero, List.set_cons_succ]
  refine takeH 22 (some 74) (v := Va) rfl (by kernel_rfl) (by kernel_rfl) (by kernel_rfl) (by kernel_rfl) (fun _ _ _ h => h) (Or.inl ⟨by kernel_rfl, ?hy⟩) (by assumption) ?_
  case hy =>
    intro w' hSw
    simp [execOp, Act.eval, hl10 w' hSw, Result.andThen]
  simp only [Act.put, List.setIfInBounds_toArray, List.set_cons_zero, List.set_cons_succ]
  refine takeH 23 (some 75) (v := ?_) rfl (by kernel_rfl) (by kernel_rfl) (by kernel_rfl) (by kernel_rfl) (fun _ _ _ h => h) (Or.inl ⟨by kernel_rfl, ?hy⟩) (by assumption) ?_
  case hy =>
    intro w' hSw
    clear hSw
    first
      | (go_simp; done)
      | (go_simp; with_reducible rfl)
  simp only [Act.put, List.setIfInBounds_toArray, List.set_cons_zero, List.set_cons_succ]
  refine takeH 24 (some 76) (v := ?_) rfl (by kernel_rfl) (by kernel_rfl) (by kernel_rfl) (by kernel_rfl) (fun _ _ _ h => h) (Or.inl ⟨by kernel_rfl, ?hy⟩) (by assumption) ?_
  case hy =>
    intro w' hSw
    clear hSw
    first
      | (go_simp; done)
      | (go_simp; with_reducible rfl)
  simp only [Act.put, List.setIfInBounds_toArray, List.set_cons_zero, List.set_cons_succ]
  clear hS1 hG hE
  refine wpAnyH_ready (rs := [25]) (by kernel_rfl) (by simp) ?_
  refine AllReadyH.cons rfl (fun K hK => ?_) AllReadyH.nil
  rw [if_pos (by kernel_rfl)]
  go_simp
  refine (hCr.out u3 Hb3.out).mono ?_
  rintro e u4 ⟨rfl, hb⟩
  have Hb4 := Lib.hid (Hb3.out.trans (hb.mono Hb3.out.size))
  clear hb
  refine hK.out _ _ Hb4.out (fun _ => ?_)
  clear hK K
  simp only [List.setIfInBounds_toArray, List.set_cons_zero, List.set_cons_succ]
  have hS1 := Hb4.out
  refine takeH 26 (some 78) (v := ?_) rfl (by kernel_rfl) (by kernel_rfl) (by kernel_rfl) (by kernel_rfl) (fun _ _ _ h => h) (Or.inl ⟨by kernel_rfl, ?hy⟩) (by assumption) ?_
  case hy =>
    intro w' hSw
    clear hSw
    first
      | (go_simp; done)
      | (go_simp; with_reducible rfl)
  simp only [Act.put, List.setIfInBounds_toArray, List.set_cons_zero, List.set_cons_succ]
  refine takeH 27 (some 79) (v := ?_) rfl (by kernel_rfl) (by kernel_rfl) (by kernel_rfl) (by kernel_rfl) (fun _ _ _ h => h) (Or.inl ⟨by kernel_rfl, ?hy⟩) (by assumption) ?_
  case hy =>
    intro w' hSw
    clear hSw
    first
      | (go_simp; done)
      | (go_simp; with_reducible rfl)
  simp only [Act.put, List.setIfInBounds_toArray, List.set_cons_zero, List.set_cons_succ]
  refine takeH 28 (some 80) (v := ?_) rfl (by kernel_rfl) (by kernel_rfl) (by kernel_rfl) (by kernel_rfl) (fun _ _ _ h => h) (Or.inl ⟨by kernel_rfl, ?hy⟩) (by assumption) ?_
  case hy =>
    intro w' hSw
    clear hSw
    first
      | (go_simp; done)
      | (go_simp; with_reducible rfl)
  simp only [Act.put, List.setIfInBounds_toArray, List.set_cons_zero, List.set_cons_succ]
  refine takeH 29 (some 81) (v := Va) rfl (by kernel_rfl) (by kernel_rfl) (by kernel_rfl) (by kernel_rfl) (fun _ _ _ h => h) (Or.inl ⟨by kernel_rfl, ?hy⟩) (by assumption) ?_
  case hy =>
    intro w' hSw
    simp [execOp, Act.eval, hl10 w' hSw, Result.andThen]
  simp only [Act.put, List.setIfInBounds_toArray, List.set_cons_zero, List.set_cons_succ]
  clear hS1
  refine wpAnyH_ready (rs := [30]) (by kernel_rfl) (by simp) ?_
  refine AllReadyH.cons rfl (fun K hK => ?_) AllReadyH.nil
  rw [if_pos (by kernel_rfl)]
  go_simp
  refine (newBook_any u4).mono ?_
  rintro e u5 ⟨rfl, hbk, hb⟩
  have Hb5 := Lib.hid (Hb4.out.trans (hb.mono Hb4.out.size))
  have Hbk := Lib.hid hbk
  clear hb hbk
  generalize u4.heap.size + 1 = bk at *
  refine hK.out _ _ Hb5.out (fun _ => ?_)
  clear hK K
  simp only [List.setIfInBounds_toArray, List.set_cons_zero, List.set_cons_succ]
  have hS1 := Hb5.out
  refine takeH 31 (some 83) (v := ?_) rfl (by kernel_rfl) (by kernel_rfl) (by kernel_rfl) (by kernel_rfl) (fun _ _ _ h => h) (Or.inl ⟨by kernel_rfl, ?hy⟩) (by assumption) ?_
  case hy =>
    intro w' hSw
    clear hSw
    first
      | (go_simp; done)
      | (go_simp; with_reducible rfl)
  simp only [Act.put, List.setIfInBounds_toArray, List.set_cons_zero, List.set_cons_succ]
  clear hS1
  refine wpAnyH_ready (rs := [32]) (by kernel_rfl) (by simp) ?_
  refine AllReadyH.cons rfl (fun K hK => ?_) AllReadyH.nil
  rw [if_pos (by kernel_rfl)]
  go_simp
  refine (hCb.out u5 _ _ _ Hb5.out Hbk.out).mono ?_
  rintro e u6 ⟨rfl, hb⟩
  have Hb6 := Lib.hid (Hb5.out.trans (hb.mono Hb5.out.size))
  clear hb
  refine hK.out _ _ Hb6.out (fun _ => ?_)
  clear hK K
  simp only [List.setIfInBounds_toArray, List.set_cons_zero, List.set_cons_succ]
  have hS1 := Hb6.out
  refine takeH 33 (some 85) (v := ?_) rfl (by kernel_rfl) (by kernel_rfl) (by kernel_rfl) (by kernel_rfl) (fun _ _ _ h => h) (Or.inl ⟨by kernel_rfl, ?hy⟩) (by assumption) ?_
  case hy =>
    intro w' hSw
    clear hSw
    first
      | (go_simp; done)
      | (go_simp; with_reducible rfl)
  simp only [Act.put, List.setIfInBounds_toArray, List.set_cons_zero, List.set_cons_succ]
  refine takeH 34 (some 86) (v := ?_) rfl (by kernel_rfl) (by kernel_rfl) (by kernel_rfl) (by kernel_rfl) (fun _ _ _ h => h) (Or.inl ⟨by kernel_rfl, ?hy⟩) (by assumption) ?_
  case hy =>
    intro w' hSw
    clear hSw
    first
      | (go_simp; done)
      | (go_simp; with_reducible rfl)
  simp only [Act.put, List.setIfInBounds_toArray, List.set_cons_zero, List.set_cons_succ]
  refine takeH 35 (some 87) (v := ?_) rfl (by kernel_rfl) (by kernel_rfl) (by kernel_rfl) (by kernel_rfl) (fun _ _ _ h => h) (Or.inl ⟨by kernel_rfl, ?hy⟩) (by assumption) ?_
  case hy =>
    intro w' hSw
    clear hSw
    first
      | (go_simp; done)
      | (go_simp; with_reducible rfl)
  simp only [Act.put, List.setIfInBounds_toArray, List.set_cons_zero, List.set_cons_succ]
  refine takeH 36 (some 88) (v := ?_) rfl (by kernel_rfl) (by kernel_rfl) (by kernel_rfl) (by kernel_rfl) (fun _ _ _ h => h) (Or.inl ⟨by kernel_rfl, ?hy⟩) (by assumption) ?_
  case hy =>
    intro w' hSw
    clear hSw
    first
      | (go_simp; done)
      | (go_simp; with_reducible rfl)
  simp only [Act.put, List.setIfInBounds_toArray, List.set_cons_zero, List.set_cons_succ]
  refine takeH 37 (some 89) (v := ?_) rfl (by kernel_rfl) (by kernel_rfl) (by kernel_rfl) (by kernel_rfl) (fun _ _ _ h => h) (Or.inl ⟨by kernel_rfl, ?hy⟩) (by assumption) ?_
  case hy =>
    intro w' hSw
    clear hSw
    first
      | (go_simp; done)
      | (go_simp; with_reducible rfl)
  simp only [Act.put, List.setIfInBounds_toArray, List.set_cons_zero, List.set_cons_succ]
  refine takeH 38 (some 90) (v := ?_) rfl (by kernel_rfl) (by kernel_rfl) (by kernel_rfl) (by kernel_rfl) (fun _ _ _ h => h) (Or.inl ⟨by kernel_rfl, ?hy⟩) (by assumption) ?_
  case hy =>
    intro w' hSw
    clear hSw
    first
      | (go_simp; done)
      | (go_simp; with_reducible rfl)
  simp only [Act.put, List.setIfInBounds_toArray, List.set_cons_zero, List.set_cons_succ]
  refine takeH 39 (some 91) (v := ?_) rfl (by kernel_rfl) (by kernel_rfl) (by kernel_rfl) (by kernel_rfl) (fun _ _ _ h => h) (Or.inl ⟨by kernel_rfl, ?hy⟩) (by assumption) ?_
  case hy =>
    intro w' hSw
    clear hSw
    first
      | (go_simp; done)
      | (go_simp; with_reducible rfl)
  simp only [Act.put, List.setIfInBounds_toArray, List.set_cons_zero, List.set_cons_succ]
  refine takeH 40 (some 92) (v := Vc) rfl (by kernel_rfl) (by kernel_rfl) (by kernel_rfl) (by kernel_rfl) (fun _ _ _ h => h) (Or.inl ⟨by kernel_rfl, ?hy⟩) (by assumption) ?_
  case hy =>
    intro w' hSw
    simp [execOp, Act.eval, hl14 w' hSw, Result.andThen]
  simp only [Act.put, List.setIfInBounds_toArray, List.set_cons_zero, List.set_cons_succ]
  refine takeH 41 (some 93) (v := ?_) rfl (by kernel_rfl) (by kernel_rfl) (by kernel_rfl) (by kernel_rfl) (fun _ _ _ h => h) (Or.inl ⟨by kernel_rfl, ?hy⟩) (by assumption) ?_
  case hy =>
    intro w' hSw
    clear hSw
    first
      | (go_simp; done)
      | (go_simp; with_reducible rfl)
  simp only [Act.put, List.setIfInBounds_toArray, List.set_cons_zero, List.set_cons_succ]
  clear hS1
  refine wpAnyH_ready (rs := [42]) (by kernel_rfl) (by simp) ?_
  refine AllReadyH.cons rfl (fun K hK => ?_) AllReadyH.nil
  rw [if_pos (by kernel_rfl)]
  go_simp
  refine (hCz.out u6).mono ?_
  rintro e u7 ⟨rfl, hb⟩
  have Hb7 := Lib.hid (Hb6.out.trans (hb.mono Hb6.out.size))
  clear hb
  refine hK.out _ _ Hb7.out (fun _ => ?_)
  clear hK K
  simp only [List.setIfInBounds_toArray, List.set_cons_zero, List.set_cons_succ]
  have hS1 := Hb7.out
  refine takeH 43 (some 95) (v := ?_) rfl (by kernel_rfl) (by kernel_rfl) (by kernel_rfl) (by kernel_rfl) (fun _ _ _ h => h) (Or.inl ⟨by kernel_rfl, ?hy⟩) (by assumption) ?_
  case hy =>
    intro w' hSw
    clear hSw
    first
      | (go_simp; done)
      | (go_simp; with_reducible rfl)
  simp only [Act.put, List.setIfInBounds_toArray, List.set_cons_zero, List.set_cons_succ]
  refine takeH 44 (some 6) (v := ?_) rfl (by kernel_rfl) (by kernel_rfl) (by kernel_rfl) (by kernel_rfl) (fun _ _ _ h => h) (Or.inl ⟨by kernel_rfl, ?hy⟩) (by assumption) ?_
  case hy =>
    intro w' hSw
    clear hSw
    first
      | (go_simp; done)
      | (go_simp; with_reducible rfl)
  simp only [Act.put, List.setIfInBounds_toArray, List.set_cons_zero, List.set_cons_succ]
  refine wpAnyH_done (by kernel_rfl) ?_ _
  clear hS1
  go_wp2
  go_ret
  exact ⟨rfl, Hw8.out.trans (Hb7.out.mono Hw8.out.size)⟩
end Go.Proofs.YthjpaclcoipocaaGreat
