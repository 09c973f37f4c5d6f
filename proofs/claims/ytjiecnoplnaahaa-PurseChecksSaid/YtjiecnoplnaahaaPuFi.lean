/- The walk of Find of a purse. Condition: bounds. -/
import Derived.Test.YtjiecnoplnaahaaPuI
import Derived.Test.YtjiecnoplnaahaaPuG
namespace Go.Proofs.Ytjiecnoplnaahaa
open Go.RowKit Go.Lib


/-- What is held by a name; all zero: nothing is. -/
def Pu.find (p : Pu) (d : D8) : Hd := if 0 ≤ placeL p.held d then p.held.getD (placeL p.held d).toNat default else hd0
set_option maxRecDepth 100000 in
set_option maxHeartbeats 2000000 in
theorem find_any (p : Pu) (A : Option Addr) (n c : Nat) (d : D8) (w : World) (h : PuV.At p A n c w) :
    Calls Try.prog 27 #[.agg #[.int .u8 (p.nm.x0 : Int), .int .u8 (p.nm.x1 : Int), .int .u8 (p.nm.x2 : Int), .int .u8 (p.nm.x3 : Int), .int .u8 (p.nm.x4 : Int), .int .u8 (p.nm.x5 : Int), .int .u8 (p.nm.x6 : Int), .int .u8 (p.nm.x7 : Int), .int .i64 p.no, .int .i64 p.h0, .int .i64 p.h1, .slice A n c], .agg #[.int .u8 (d.x0 : Int), .int .u8 (d.x1 : Int), .int .u8 (d.x2 : Int), .int .u8 (d.x3 : Int), .int .u8 (d.x4 : Int), .int .u8 (d.x5 : Int), .int .u8 (d.x6 : Int), .int .u8 (d.x7 : Int)]] w fun e w' => e = .returned (.tuple #[.agg #[.int .u8 ((p.find d).nm.x0 : Int), .int .u8 ((p.find d).nm.x1 : Int), .int .u8 ((p.find d).nm.x2 : Int), .int .u8 ((p.find d).nm.x3 : Int), .int .u8 ((p.find d).nm.x4 : Int), .int .u8 ((p.find d).nm.x5 : Int), .int .u8 ((p.find d).nm.x6 : Int), .int .u8 ((p.find d).nm.x7 : Int), .int .i64 (p.find d).am, .int .i64 (p.find d).fr, .int .i64 (p.find d).un], .bool (decide (0 ≤ placeL p.held d))]) ∧ Below w.heap.size w w' := by
  have HT : Hid ((((w.alloc (.cells #[.int .u8 (p.nm.x0 : Int), .int .u8 (p.nm.x1 : Int), .int .u8 (p.nm.x2 : Int), .int .u8 (p.nm.x3 : Int), .int .u8 (p.nm.x4 : Int), .int .u8 (p.nm.x5 : Int), .int .u8 (p.nm.x6 : Int), .int .u8 (p.nm.x7 : Int), .int .i64 p.no, .int .i64 p.h0, .int .i64 p.h1, .slice A n c] 32)).alloc (.cells #[.int .u8 (d.x0 : Int), .int .u8 (d.x1 : Int), .int .u8 (d.x2 : Int), .int .u8 (d.x3 : Int), .int .u8 (d.x4 : Int), .int .u8 (d.x5 : Int), .int .u8 (d.x6 : Int), .int .u8 (d.x7 : Int)] 29)).alloc (.cells #[.int .u8 0, .int .u8 0, .int .u8 0, .int .u8 0, .int .u8 0, .int .u8 0, .int .u8 0, .int .u8 0, .int .i64 0, .int .i64 0, .int .i64 0] 56)).heap[w.heap.size]? = some (.cells #[.int .u8 (p.nm.x0 : Int), .int .u8 (p.nm.x1 : Int), .int .u8 (p.nm.x2 : Int), .int .u8 (p.nm.x3 : Int), .int .u8 (p.nm.x4 : Int), .int .u8 (p.nm.x5 : Int), .int .u8 (p.nm.x6 : Int), .int .u8 (p.nm.x7 : Int), .int .i64 p.no, .int .i64 p.h0, .int .i64 p.h1, .slice A n c] 32 (0, 0))) := block_alloc (block_alloc (heap_alloc_new w _) _) _
  have HR : Hid ((((w.alloc (.cells #[.int .u8 (p.nm.x0 : Int), .int .u8 (p.nm.x1 : Int), .int .u8 (p.nm.x2 : Int), .int .u8 (p.nm.x3 : Int), .int .u8 (p.nm.x4 : Int), .int .u8 (p.nm.x5 : Int), .int .u8 (p.nm.x6 : Int), .int .u8 (p.nm.x7 : Int), .int .i64 p.no, .int .i64 p.h0, .int .i64 p.h1, .slice A n c] 32)).alloc (.cells #[.int .u8 (d.x0 : Int), .int .u8 (d.x1 : Int), .int .u8 (d.x2 : Int), .int .u8 (d.x3 : Int), .int .u8 (d.x4 : Int), .int .u8 (d.x5 : Int), .int .u8 (d.x6 : Int), .int .u8 (d.x7 : Int)] 29)).alloc (.cells #[.int .u8 0, .int .u8 0, .int .u8 0, .int .u8 0, .int .u8 0, .int .u8 0, .int .u8 0, .int .u8 0, .int .i64 0, .int .i64 0, .int .i64 0] 56)).heap[w.heap.size + 2]? = some (.cells #[.int .u8 0, .int .u8 0, .int .u8 0, .int .u8 0, .int .u8 0, .int .u8 0, .int .u8 0, .int .u8 0, .int .i64 0, .int .i64 0, .int .i64 0] 56 (0, 0))) := alloc_at (by simp)
  have Hw : Hid (Below w.heap.size w (((w.alloc (.cells #[.int .u8 (p.nm.x0 : Int), .int .u8 (p.nm.x1 : Int), .int .u8 (p.nm.x2 : Int), .int .u8 (p.nm.x3 : Int), .int .u8 (p.nm.x4 : Int), .int .u8 (p.nm.x5 : Int), .int .u8 (p.nm.x6 : Int), .int .u8 (p.nm.x7 : Int), .int .i64 p.no, .int .i64 p.h0, .int .i64 p.h1, .slice A n c] 32)).alloc (.cells #[.int .u8 (d.x0 : Int), .int .u8 (d.x1 : Int), .int .u8 (d.x2 : Int), .int .u8 (d.x3 : Int), .int .u8 (d.x4 : Int), .int .u8 (d.x5 : Int), .int .u8 (d.x6 : Int), .int .u8 (d.x7 : Int)] 29)).alloc (.cells #[.int .u8 0, .int .u8 0, .int .u8 0, .int .u8 0, .int .u8 0, .int .u8 0, .int .u8 0, .int .u8 0, .int .i64 0, .int .i64 0, .int .i64 0] 56))) := ((below_two w _ _).alloc (by simp; omega) _)
  have Hz : Hid ((((w.alloc (.cells #[.int .u8 (p.nm.x0 : Int), .int .u8 (p.nm.x1 : Int), .int .u8 (p.nm.x2 : Int), .int .u8 (p.nm.x3 : Int), .int .u8 (p.nm.x4 : Int), .int .u8 (p.nm.x5 : Int), .int .u8 (p.nm.x6 : Int), .int .u8 (p.nm.x7 : Int), .int .i64 p.no, .int .i64 p.h0, .int .i64 p.h1, .slice A n c] 32)).alloc (.cells #[.int .u8 (d.x0 : Int), .int .u8 (d.x1 : Int), .int .u8 (d.x2 : Int), .int .u8 (d.x3 : Int), .int .u8 (d.x4 : Int), .int .u8 (d.x5 : Int), .int .u8 (d.x6 : Int), .int .u8 (d.x7 : Int)] 29)).alloc (.cells #[.int .u8 0, .int .u8 0, .int .u8 0, .int .u8 0, .int .u8 0, .int .u8 0, .int .u8 0, .int .u8 0, .int .i64 0, .int .i64 0, .int .i64 0] 56)).heap.size = w.heap.size + 3) := by show _ = _; simp
  have H := Lib.hid (h.up Hw.out)
  have Hl := Lib.hid h.rd.hlen
  have Hyes := Lib.hid (fun h => placeL_yes (l := p.held) (n := d) h)
  have hsm := h.small
  clear h
  go_enter Try.func27, Try.ntmps27
  go_wp2_with fail
  generalize (((w.alloc (.cells #[.int .u8 (p.nm.x0 : Int), .int .u8 (p.nm.x1 : Int), .int .u8 (p.nm.x2 : Int), .int .u8 (p.nm.x3 : Int), .int .u8 (p.nm.x4 : Int), .int .u8 (p.nm.x5 : Int), .int .u8 (p.nm.x6 : Int), .int .u8 (p.nm.x7 : Int), .int .i64 p.no, .int .i64 p.h0, .int .i64 p.h1, .slice A n c] 32)).alloc (.cells #[.int .u8 (d.x0 : Int), .int .u8 (d.x1 : Int), .int .u8 (d.x2 : Int), .int .u8 (d.x3 : Int), .int .u8 (d.x4 : Int), .int .u8 (d.x5 : Int), .int .u8 (d.x6 : Int), .int .u8 (d.x7 : Int)] 29)).alloc (.cells #[.int .u8 0, .int .u8 0, .int .u8 0, .int .u8 0, .int .u8 0, .int .u8 0, .int .u8 0, .int .u8 0, .int .i64 0, .int .i64 0, .int .i64 0] 56)) = w0 at *
  refine (place_any p A n c d w0 H.out).mono ?_
  rintro e w1 ⟨rfl, hb1⟩
  have T := block_below HT.out hb1 (by have := Hz.out; omega)
  have z11 := block_cell T 11
  simp at z11
  have HR1 := block_below HR.out hb1 (by have := Hz.out; omega)
  have r := block_cell HR1
  have r0 := r 0; have r1 := r 1; have r2 := r 2; have r3 := r 3; have r4 := r 4; have r5 := r 5; have r6 := r 6; have r7 := r 7; have r8 := r 8; have r9 := r 9; have r10 := r 10
  have rf := block_free HR1
  simp at r0 r1 r2 r3 r4 r5 r6 r7 r8 r9 r10
  have H1 := Lib.hid (H.out.up hb1)
  have Hw1 := Lib.hid (Hw.out.trans (hb1.mono Hw.out.size))
  clear r T HR1 hb1
  by_cases hp : 0 ≤ placeL p.held d
  · have Hf : Hid (p.find d = p.held.getD (placeL p.held d).toNat default) := by show _ = _; unfold Pu.find; rw [if_pos hp]
    obtain ⟨h1, _, _⟩ := Hyes.out hp
    generalize hq : placeL p.held d = q at *
    obtain ⟨k, rfl⟩ : ∃ k : Nat, q = k := ⟨q.toNat, by omega⟩
    have Hq := Lib.hid hq
    clear hq
    simp only [Int.toNat_natCast] at Hf h1
    have hk : k < n := by have := Hl.out; omega
    obtain ⟨b, o, rfl, hbB, x0, x1, x2, x3, x4, x5, x6, x7, x8, x9, x10⟩ := H1.out.rd.hd hk
    generalize p.held.getD k default = h at *
    have hd1 : decide ((k : Int) < 0) = false := decide_eq_false (by omega)
    have hi0 : (0 : Int) ≤ (k : Int) := by omega
    have hi1 : (k : Int) < (n : Int) := by omega
    clear hp h1
    go_wp2
    refine bodyPost_ret (v := .tuple #[.agg #[.int .u8 (h.nm.x0 : Int), .int .u8 (h.nm.x1 : Int), .int .u8 (h.nm.x2 : Int), .int .u8 (h.nm.x3 : Int), .int .u8 (h.nm.x4 : Int), .int .u8 (h.nm.x5 : Int), .int .u8 (h.nm.x6 : Int), .int .u8 (h.nm.x7 : Int), .int .i64 h.am, .int .i64 h.fr, .int .i64 h.un], .bool true]) (by simp [results, Try.results27, go_sem, r0, r1, r2, r3, r4, r5, r6, r7, r8, r9, r10]) rfl ⟨by rw [Hq.out, Hf.out]; simp, ?_⟩
    repeat refine Below.setCell ?_ (by show w.heap.size ≤ w.heap.size + 2; omega) _
    exact Hw1.out
  · have Hf : Hid (p.find d = hd0) := by show _ = _; unfold Pu.find; rw [if_neg hp]
    have Hp := Lib.hid (decide_eq_false hp)
    have hd1 : decide (placeL p.held d < 0) = true := decide_eq_true (by omega)
    clear hp
    go_wp2
    refine bodyPost_ret (v := .tuple #[.agg #[.int .u8 0, .int .u8 0, .int .u8 0, .int .u8 0, .int .u8 0, .int .u8 0, .int .u8 0, .int .u8 0, .int .i64 0, .int .i64 0, .int .i64 0], .bool false]) (by simp [results, Try.results27, go_sem, r0, r1, r2, r3, r4, r5, r6, r7, r8, r9, r10]) rfl ⟨by rw [Hp.out, Hf.out]; rfl, ?_⟩
    repeat refine Below.setCell ?_ (by show w.heap.size ≤ w.heap.size + 2; omega) _
    exact Hw1.out
end Go.Proofs.Ytjiecnoplnaahaa
