/- The walk of Newer: whether a purse that both sides signed comes behind another one. Conditions: bounds. -/
import Derived.Test.YthjpaclcoipocaaPvP
import Derived.Test.YthjpaclcoipocaaPuD
namespace Go.Proofs.Ythjpaclcoipocaa
open Go.RowKit Go.Lib


theorem loadPu {p : Pu} {A : Option Addr} {n c : Nat} {w : World} {b : Nat} (h : w.heap[b]? = some (.cells #[.int .u8 (p.nm.x0 : Int), .int .u8 (p.nm.x1 : Int), .int .u8 (p.nm.x2 : Int), .int .u8 (p.nm.x3 : Int), .int .u8 (p.nm.x4 : Int), .int .u8 (p.nm.x5 : Int), .int .u8 (p.nm.x6 : Int), .int .u8 (p.nm.x7 : Int), .int .i64 p.no, .int .i64 p.h0, .int .i64 p.h1, .slice A n c] 35 (0, 0))) : (Instr.loadAt 35 (.pointer (some ⟨b, 0, none⟩))).run Try.prog w = .ok (.agg #[.int .u8 (p.nm.x0 : Int), .int .u8 (p.nm.x1 : Int), .int .u8 (p.nm.x2 : Int), .int .u8 (p.nm.x3 : Int), .int .u8 (p.nm.x4 : Int), .int .u8 (p.nm.x5 : Int), .int .u8 (p.nm.x6 : Int), .int .u8 (p.nm.x7 : Int), .int .i64 p.no, .int .i64 p.h0, .int .i64 p.h1, .slice A n c]) w := by
  obtain ⟨z0, z1, z2, z3, z4, z5, z6, z7, z8, z9, z10, z11⟩ := PBox.all h
  clear h
  go_simp
theorem keys_rd {w : World} {b : Nat} {k0 k1 : D8} (h : w.heap[b]? = some (.cells #[.int .u8 (k0.x0 : Int), .int .u8 (k0.x1 : Int), .int .u8 (k0.x2 : Int), .int .u8 (k0.x3 : Int), .int .u8 (k0.x4 : Int), .int .u8 (k0.x5 : Int), .int .u8 (k0.x6 : Int), .int .u8 (k0.x7 : Int), .int .u8 (k1.x0 : Int), .int .u8 (k1.x1 : Int), .int .u8 (k1.x2 : Int), .int .u8 (k1.x3 : Int), .int .u8 (k1.x4 : Int), .int .u8 (k1.x5 : Int), .int .u8 (k1.x6 : Int), .int .u8 (k1.x7 : Int)] 39 (0, 0))) : Rd w w.heap.size 8 (some ⟨b, 0, none⟩) 2 (flatD [k0, k1]) := by
  refine ⟨rfl, fun _ => ⟨b, 0, rfl, block_lt h, fun j u hj => ?_⟩⟩
  rw [Nat.zero_add]
  refine (block_cell h j).trans ?_
  simpa [flatD, D8.cells] using hj
theorem sigs_rd {w : World} {b : Nat} {A0 A1 : Option Addr} {n0 c0 n1 c1 : Nat} {s0 s1 : List Nat} (h : w.heap[b]? = some (.cells #[.slice A0 n0 c0, .slice A1 n1 c1] 41 (0, 0))) (h0 : Rd w w.heap.size 1 A0 n0 (bvN s0)) (h1 : Rd w w.heap.size 1 A1 n1 (bvN s1)) : SigRd w w.heap.size (some ⟨b, 0, none⟩) 2 [s0, s1] := by
  refine ⟨rfl, fun _ => ⟨b, 0, rfl, block_lt h, fun k hk => ?_⟩⟩
  rw [Nat.zero_add]
  match k, hk with
  | 0, _ => exact ⟨A0, n0, c0, block_cell h 0, h0⟩
  | 1, _ => exact ⟨A1, n1, c1, block_cell h 1, h1⟩
theorem slice_two {w : World} {b sz : Nat} {t : TypeId} (h : Try.prog.arrayLen t = 2) (ht : Try.prog.underlying t = some (.array (Try.prog.arrayLen t) (Try.prog.elem t))) (hs : ∀ u, (sizeOf (Try.prog.elem t)).run Try.prog u = .ok sz u) : (Instr.sliceAt t (.pointer (some ⟨b, 0, none⟩)) none none none).run Try.prog w = .ok (.slice (some ⟨b, 0, none⟩) 2 2) w := by
  rw [run_sliceAt_array_all w t ⟨b, 0, none⟩ ht, hs w]
  simp [slicedAt, Result.andThen, h, Addr.add]
set_option maxRecDepth 100000 in
set_option maxHeartbeats 4000000 in
theorem newer_any (X Y : Pu) (A A' : Option Addr) (n c n' c' : Nat) (B bk mb : Nat) (L : List En) (k0 k1 : D8) (A0 A1 : Option Addr) (n0 c0 n1 c1 : Nat) (s0 s1 : List Nat) (w : World)
    (hX : PuV.At X A n c w) (hY : PuV.At Y A' n' c' w) (hok : Y.bytesOk) (hB : BookAt w B bk mb L) (hlen : L.length < 60000) (hk0 : k0.ok) (hk1 : k1.ok)
    (hs0 : Rd w w.heap.size 1 A0 n0 (bvN s0)) (hs1 : Rd w w.heap.size 1 A1 n1 (bvN s1)) (hso0 : s0.length ≤ 1000 ∧ ∀ x ∈ s0, x < 256) (hso1 : s1.length ≤ 1000 ∧ ∀ x ∈ s1, x < 256) :
    Calls Try.prog 10 #[.iface 37 (.pointer (some ⟨bk, 0, none⟩)), .agg #[.int .u8 (k0.x0 : Int), .int .u8 (k0.x1 : Int), .int .u8 (k0.x2 : Int), .int .u8 (k0.x3 : Int), .int .u8 (k0.x4 : Int), .int .u8 (k0.x5 : Int), .int .u8 (k0.x6 : Int), .int .u8 (k0.x7 : Int), .int .u8 (k1.x0 : Int), .int .u8 (k1.x1 : Int), .int .u8 (k1.x2 : Int), .int .u8 (k1.x3 : Int), .int .u8 (k1.x4 : Int), .int .u8 (k1.x5 : Int), .int .u8 (k1.x6 : Int), .int .u8 (k1.x7 : Int)], .agg #[.int .u8 (X.nm.x0 : Int), .int .u8 (X.nm.x1 : Int), .int .u8 (X.nm.x2 : Int), .int .u8 (X.nm.x3 : Int), .int .u8 (X.nm.x4 : Int), .int .u8 (X.nm.x5 : Int), .int .u8 (X.nm.x6 : Int), .int .u8 (X.nm.x7 : Int), .int .i64 X.no, .int .i64 X.h0, .int .i64 X.h1, .slice A n c], .agg #[.int .u8 (Y.nm.x0 : Int), .int .u8 (Y.nm.x1 : Int), .int .u8 (Y.nm.x2 : Int), .int .u8 (Y.nm.x3 : Int), .int .u8 (Y.nm.x4 : Int), .int .u8 (Y.nm.x5 : Int), .int .u8 (Y.nm.x6 : Int), .int .u8 (Y.nm.x7 : Int), .int .i64 Y.no, .int .i64 Y.h0, .int .i64 Y.h1, .slice A' n' c'], .agg #[.slice A0 n0 c0, .slice A1 n1 c1]] w fun e w' => e = .returned (.int .i64 (newI X Y (allI 2 2 (missTo (lacksE L Y.digest [k0, k1] [s0, s1] []) 2)))) ∧ Below w.heap.size w w' := by
  have HK : Hid (((((w.alloc (.cells #[.int .u8 (k0.x0 : Int), .int .u8 (k0.x1 : Int), .int .u8 (k0.x2 : Int), .int .u8 (k0.x3 : Int), .int .u8 (k0.x4 : Int), .int .u8 (k0.x5 : Int), .int .u8 (k0.x6 : Int), .int .u8 (k0.x7 : Int), .int .u8 (k1.x0 : Int), .int .u8 (k1.x1 : Int), .int .u8 (k1.x2 : Int), .int .u8 (k1.x3 : Int), .int .u8 (k1.x4 : Int), .int .u8 (k1.x5 : Int), .int .u8 (k1.x6 : Int), .int .u8 (k1.x7 : Int)] 39)).alloc (.cells #[.int .u8 (X.nm.x0 : Int), .int .u8 (X.nm.x1 : Int), .int .u8 (X.nm.x2 : Int), .int .u8 (X.nm.x3 : Int), .int .u8 (X.nm.x4 : Int), .int .u8 (X.nm.x5 : Int), .int .u8 (X.nm.x6 : Int), .int .u8 (X.nm.x7 : Int), .int .i64 X.no, .int .i64 X.h0, .int .i64 X.h1, .slice A n c] 35)).alloc (.cells #[.int .u8 (Y.nm.x0 : Int), .int .u8 (Y.nm.x1 : Int), .int .u8 (Y.nm.x2 : Int), .int .u8 (Y.nm.x3 : Int), .int .u8 (Y.nm.x4 : Int), .int .u8 (Y.nm.x5 : Int), .int .u8 (Y.nm.x6 : Int), .int .u8 (Y.nm.x7 : Int), .int .i64 Y.no, .int .i64 Y.h0, .int .i64 Y.h1, .slice A' n' c'] 35)).alloc (.cells #[.slice A0 n0 c0, .slice A1 n1 c1] 41)).heap[w.heap.size]? = some (.cells #[.int .u8 (k0.x0 : Int), .int .u8 (k0.x1 : Int), .int .u8 (k0.x2 : Int), .int .u8 (k0.x3 : Int), .int .u8 (k0.x4 : Int), .int .u8 (k0.x5 : Int), .int .u8 (k0.x6 : Int), .int .u8 (k0.x7 : Int), .int .u8 (k1.x0 : Int), .int .u8 (k1.x1 : Int), .int .u8 (k1.x2 : Int), .int .u8 (k1.x3 : Int), .int .u8 (k1.x4 : Int), .int .u8 (k1.x5 : Int), .int .u8 (k1.x6 : Int), .int .u8 (k1.x7 : Int)] 39 (0, 0))) := block_alloc (block_alloc (block_alloc (heap_alloc_new w _) _) _) _
  have HX : Hid (((((w.alloc (.cells #[.int .u8 (k0.x0 : Int), .int .u8 (k0.x1 : Int), .int .u8 (k0.x2 : Int), .int .u8 (k0.x3 : Int), .int .u8 (k0.x4 : Int), .int .u8 (k0.x5 : Int), .int .u8 (k0.x6 : Int), .int .u8 (k0.x7 : Int), .int .u8 (k1.x0 : Int), .int .u8 (k1.x1 : Int), .int .u8 (k1.x2 : Int), .int .u8 (k1.x3 : Int), .int .u8 (k1.x4 : Int), .int .u8 (k1.x5 : Int), .int .u8 (k1.x6 : Int), .int .u8 (k1.x7 : Int)] 39)).alloc (.cells #[.int .u8 (X.nm.x0 : Int), .int .u8 (X.nm.x1 : Int), .int .u8 (X.nm.x2 : Int), .int .u8 (X.nm.x3 : Int), .int .u8 (X.nm.x4 : Int), .int .u8 (X.nm.x5 : Int), .int .u8 (X.nm.x6 : Int), .int .u8 (X.nm.x7 : Int), .int .i64 X.no, .int .i64 X.h0, .int .i64 X.h1, .slice A n c] 35)).alloc (.cells #[.int .u8 (Y.nm.x0 : Int), .int .u8 (Y.nm.x1 : Int), .int .u8 (Y.nm.x2 : Int), .int .u8 (Y.nm.x3 : Int), .int .u8 (Y.nm.x4 : Int), .int .u8 (Y.nm.x5 : Int), .int .u8 (Y.nm.x6 : Int), .int .u8 (Y.nm.x7 : Int), .int .i64 Y.no, .int .i64 Y.h0, .int .i64 Y.h1, .slice A' n' c'] 35)).alloc (.cells #[.slice A0 n0 c0, .slice A1 n1 c1] 41)).heap[w.heap.size + 1]? = some (.cells #[.int .u8 (X.nm.x0 : Int), .int .u8 (X.nm.x1 : Int), .int .u8 (X.nm.x2 : Int), .int .u8 (X.nm.x3 : Int), .int .u8 (X.nm.x4 : Int), .int .u8 (X.nm.x5 : Int), .int .u8 (X.nm.x6 : Int), .int .u8 (X.nm.x7 : Int), .int .i64 X.no, .int .i64 X.h0, .int .i64 X.h1, .slice A n c] 35 (0, 0))) := block_alloc (block_alloc (alloc_at (by simp)) _) _
  have HY : Hid (((((w.alloc (.cells #[.int .u8 (k0.x0 : Int), .int .u8 (k0.x1 : Int), .int .u8 (k0.x2 : Int), .int .u8 (k0.x3 : Int), .int .u8 (k0.x4 : Int), .int .u8 (k0.x5 : Int), .int .u8 (k0.x6 : Int), .int .u8 (k0.x7 : Int), .int .u8 (k1.x0 : Int), .int .u8 (k1.x1 : Int), .int .u8 (k1.x2 : Int), .int .u8 (k1.x3 : Int), .int .u8 (k1.x4 : Int), .int .u8 (k1.x5 : Int), .int .u8 (k1.x6 : Int), .int .u8 (k1.x7 : Int)] 39)).alloc (.cells #[.int .u8 (X.nm.x0 : Int), .int .u8 (X.nm.x1 : Int), .int .u8 (X.nm.x2 : Int), .int .u8 (X.nm.x3 : Int), .int .u8 (X.nm.x4 : Int), .int .u8 (X.nm.x5 : Int), .int .u8 (X.nm.x6 : Int), .int .u8 (X.nm.x7 : Int), .int .i64 X.no, .int .i64 X.h0, .int .i64 X.h1, .slice A n c] 35)).alloc (.cells #[.int .u8 (Y.nm.x0 : Int), .int .u8 (Y.nm.x1 : Int), .int .u8 (Y.nm.x2 : Int), .int .u8 (Y.nm.x3 : Int), .int .u8 (Y.nm.x4 : Int), .int .u8 (Y.nm.x5 : Int), .int .u8 (Y.nm.x6 : Int), .int .u8 (Y.nm.x7 : Int), .int .i64 Y.no, .int .i64 Y.h0, .int .i64 Y.h1, .slice A' n' c'] 35)).alloc (.cells #[.slice A0 n0 c0, .slice A1 n1 c1] 41)).heap[w.heap.size + 2]? = some (.cells #[.int .u8 (Y.nm.x0 : Int), .int .u8 (Y.nm.x1 : Int), .int .u8 (Y.nm.x2 : Int), .int .u8 (Y.nm.x3 : Int), .int .u8 (Y.nm.x4 : Int), .int .u8 (Y.nm.x5 : Int), .int .u8 (Y.nm.x6 : Int), .int .u8 (Y.nm.x7 : Int), .int .i64 Y.no, .int .i64 Y.h0, .int .i64 Y.h1, .slice A' n' c'] 35 (0, 0))) := block_alloc (alloc_at (by simp)) _
  have HS : Hid (((((w.alloc (.cells #[.int .u8 (k0.x0 : Int), .int .u8 (k0.x1 : Int), .int .u8 (k0.x2 : Int), .int .u8 (k0.x3 : Int), .int .u8 (k0.x4 : Int), .int .u8 (k0.x5 : Int), .int .u8 (k0.x6 : Int), .int .u8 (k0.x7 : Int), .int .u8 (k1.x0 : Int), .int .u8 (k1.x1 : Int), .int .u8 (k1.x2 : Int), .int .u8 (k1.x3 : Int), .int .u8 (k1.x4 : Int), .int .u8 (k1.x5 : Int), .int .u8 (k1.x6 : Int), .int .u8 (k1.x7 : Int)] 39)).alloc (.cells #[.int .u8 (X.nm.x0 : Int), .int .u8 (X.nm.x1 : Int), .int .u8 (X.nm.x2 : Int), .int .u8 (X.nm.x3 : Int), .int .u8 (X.nm.x4 : Int), .int .u8 (X.nm.x5 : Int), .int .u8 (X.nm.x6 : Int), .int .u8 (X.nm.x7 : Int), .int .i64 X.no, .int .i64 X.h0, .int .i64 X.h1, .slice A n c] 35)).alloc (.cells #[.int .u8 (Y.nm.x0 : Int), .int .u8 (Y.nm.x1 : Int), .int .u8 (Y.nm.x2 : Int), .int .u8 (Y.nm.x3 : Int), .int .u8 (Y.nm.x4 : Int), .int .u8 (Y.nm.x5 : Int), .int .u8 (Y.nm.x6 : Int), .int .u8 (Y.nm.x7 : Int), .int .i64 Y.no, .int .i64 Y.h0, .int .i64 Y.h1, .slice A' n' c'] 35)).alloc (.cells #[.slice A0 n0 c0, .slice A1 n1 c1] 41)).heap[w.heap.size + 3]? = some (.cells #[.slice A0 n0 c0, .slice A1 n1 c1] 41 (0, 0))) := alloc_at (by simp)
  have Hw0 : Hid (Below w.heap.size w ((((w.alloc (.cells #[.int .u8 (k0.x0 : Int), .int .u8 (k0.x1 : Int), .int .u8 (k0.x2 : Int), .int .u8 (k0.x3 : Int), .int .u8 (k0.x4 : Int), .int .u8 (k0.x5 : Int), .int .u8 (k0.x6 : Int), .int .u8 (k0.x7 : Int), .int .u8 (k1.x0 : Int), .int .u8 (k1.x1 : Int), .int .u8 (k1.x2 : Int), .int .u8 (k1.x3 : Int), .int .u8 (k1.x4 : Int), .int .u8 (k1.x5 : Int), .int .u8 (k1.x6 : Int), .int .u8 (k1.x7 : Int)] 39)).alloc (.cells #[.int .u8 (X.nm.x0 : Int), .int .u8 (X.nm.x1 : Int), .int .u8 (X.nm.x2 : Int), .int .u8 (X.nm.x3 : Int), .int .u8 (X.nm.x4 : Int), .int .u8 (X.nm.x5 : Int), .int .u8 (X.nm.x6 : Int), .int .u8 (X.nm.x7 : Int), .int .i64 X.no, .int .i64 X.h0, .int .i64 X.h1, .slice A n c] 35)).alloc (.cells #[.int .u8 (Y.nm.x0 : Int), .int .u8 (Y.nm.x1 : Int), .int .u8 (Y.nm.x2 : Int), .int .u8 (Y.nm.x3 : Int), .int .u8 (Y.nm.x4 : Int), .int .u8 (Y.nm.x5 : Int), .int .u8 (Y.nm.x6 : Int), .int .u8 (Y.nm.x7 : Int), .int .i64 Y.no, .int .i64 Y.h0, .int .i64 Y.h1, .slice A' n' c'] 35)).alloc (.cells #[.slice A0 n0 c0, .slice A1 n1 c1] 41))) := Lib.hid ((((((Below.refl _ _).alloc (Nat.le_refl _) _).alloc (by simp) _).alloc (by simp; omega) _).alloc (by simp; omega) _))
  have HaX := Lib.hid (fun (u : World) (hu : Below w.heap.size w u) => hX.up hu)
  have HaY := Lib.hid (fun (u : World) (hu : Below w.heap.size w u) => hY.up hu)
  have HaB := Lib.hid (fun (u : World) (hu : Below w.heap.size w u) => hB.below hu)
  have Hs0 := Lib.hid hs0; have Hs1 := Lib.hid hs1; have Hso0 := Lib.hid hso0; have Hso1 := Lib.hid hso1; have Hok := Lib.hid hok; have Hlen := Lib.hid hlen; have Hk0 := Lib.hid hk0; have Hk1 := Lib.hid hk1
  have hlX := Lib.hid hX.rd.hlen; have hlY := Lib.hid hY.rd.hlen
  clear hX hY hB hs0 hs1 hso0 hso1 hok hlen hk0 hk1
  go_enter Try.func10, Try.ntmps10
  go_upto_region 1 with fail
  generalize ((((w.alloc (.cells #[.int .u8 (k0.x0 : Int), .int .u8 (k0.x1 : Int), .int .u8 (k0.x2 : Int), .int .u8 (k0.x3 : Int), .int .u8 (k0.x4 : Int), .int .u8 (k0.x5 : Int), .int .u8 (k0.x6 : Int), .int .u8 (k0.x7 : Int), .int .u8 (k1.x0 : Int), .int .u8 (k1.x1 : Int), .int .u8 (k1.x2 : Int), .int .u8 (k1.x3 : Int), .int .u8 (k1.x4 : Int), .int .u8 (k1.x5 : Int), .int .u8 (k1.x6 : Int), .int .u8 (k1.x7 : Int)] 39)).alloc (.cells #[.int .u8 (X.nm.x0 : Int), .int .u8 (X.nm.x1 : Int), .int .u8 (X.nm.x2 : Int), .int .u8 (X.nm.x3 : Int), .int .u8 (X.nm.x4 : Int), .int .u8 (X.nm.x5 : Int), .int .u8 (X.nm.x6 : Int), .int .u8 (X.nm.x7 : Int), .int .i64 X.no, .int .i64 X.h0, .int .i64 X.h1, .slice A n c] 35)).alloc (.cells #[.int .u8 (Y.nm.x0 : Int), .int .u8 (Y.nm.x1 : Int), .int .u8 (Y.nm.x2 : Int), .int .u8 (Y.nm.x3 : Int), .int .u8 (Y.nm.x4 : Int), .int .u8 (Y.nm.x5 : Int), .int .u8 (Y.nm.x6 : Int), .int .u8 (Y.nm.x7 : Int), .int .i64 Y.no, .int .i64 Y.h0, .int .i64 Y.h1, .slice A' n' c'] 35)).alloc (.cells #[.slice A0 n0 c0, .slice A1 n1 c1] 41)) = w0 at *
  obtain ⟨y0, y1, y2, y3, y4, y5, y6, y7, y8, y9, y10, y11⟩ := PBox.all HX.out
  have hl1 := block_lt HX.out
  go_wp2_with fail
  refine (pcheck_any X A n c w0 (HaX.out w0 Hw0.out)).mono ?_
  rintro e w1 ⟨rfl, hb⟩
  have HK1 := Lib.hid (block_below HK.out hb (block_lt HK.out)); have HX1 := Lib.hid (block_below HX.out hb (block_lt HX.out)); have HY1 := Lib.hid (block_below HY.out hb (block_lt HY.out)); have HS1 := Lib.hid (block_below HS.out hb (block_lt HS.out)); have Hw1 := Lib.hid (Hw0.out.trans (hb.mono Hw0.out.size))
  clear hb y0 y1 y2 y3 y4 y5 y6 y7 y8 y9 y10 y11 hl1 HK HX HY HS Hw0
  by_cases hcx : X.check = 0
  · have e1 : (X.check != 0) = false := by simpa using hcx
    have Hcx := Lib.hid hcx
    clear hcx
    obtain ⟨y0, y1, y2, y3, y4, y5, y6, y7, y8, y9, y10, y11⟩ := PBox.all HY1.out
    have hl1 := block_lt HY1.out
    go_wp2_with fail
    refine (pcheck_any Y A' n' c' w1 (HaY.out w1 Hw1.out)).mono ?_
    rintro e w2 ⟨rfl, hb⟩
    have HK2 := Lib.hid (block_below HK1.out hb (block_lt HK1.out)); have HX2 := Lib.hid (block_below HX1.out hb (block_lt HX1.out)); have HY2 := Lib.hid (block_below HY1.out hb (block_lt HY1.out)); have HS2 := Lib.hid (block_below HS1.out hb (block_lt HS1.out)); have Hw2 := Lib.hid (Hw1.out.trans (hb.mono Hw1.out.size))
    clear hb y0 y1 y2 y3 y4 y5 y6 y7 y8 y9 y10 y11 hl1 HK1 HX1 HY1 HS1 Hw1
    by_cases hcy : Y.check = 0
    · have e2 : (Y.check != 0) = false := by simpa using hcy
      have Hcy := Lib.hid hcy
      clear hcy
      have hneq := neq_dig
      obtain ⟨y0, y1, y2, y3, y4, y5, y6, y7, y8, y9, y10, y11⟩ := PBox.all HY2.out
      obtain ⟨z0, z1, z2, z3, z4, z5, z6, z7, z8, z9, z10, z11⟩ := PBox.all HX2.out
      have hl1 := block_lt HY2.out; have hl2 := block_lt HX2.out
      cases hnm : sameP X.nm Y.nm with
      | false =>
        have e3 : (!eqI [(X.nm.x0 : Int), (X.nm.x1 : Int), (X.nm.x2 : Int), (X.nm.x3 : Int), (X.nm.x4 : Int), (X.nm.x5 : Int), (X.nm.x6 : Int), (X.nm.x7 : Int)] [(Y.nm.x0 : Int), (Y.nm.x1 : Int), (Y.nm.x2 : Int), (Y.nm.x3 : Int), (Y.nm.x4 : Int), (Y.nm.x5 : Int), (Y.nm.x6 : Int), (Y.nm.x7 : Int)]) = true := by show (!sameP X.nm Y.nm) = true; rw [hnm]; rfl
        have Hr : Hid (newI X Y (allI 2 2 (missTo (lacksE L Y.digest [k0, k1] [s0, s1] []) 2)) = 6) := Lib.hid (by unfold newI; simp [Hcx.out, Hcy.out, hnm])
        clear hnm
        go_wp2
        go_ret
        exact ⟨ret_int Hr.out.symm, Hw2.out⟩
      | true =>
        have e3 : (!eqI [(X.nm.x0 : Int), (X.nm.x1 : Int), (X.nm.x2 : Int), (X.nm.x3 : Int), (X.nm.x4 : Int), (X.nm.x5 : Int), (X.nm.x6 : Int), (X.nm.x7 : Int)] [(Y.nm.x0 : Int), (Y.nm.x1 : Int), (Y.nm.x2 : Int), (Y.nm.x3 : Int), (Y.nm.x4 : Int), (Y.nm.x5 : Int), (Y.nm.x6 : Int), (Y.nm.x7 : Int)]) = false := by show (!sameP X.nm Y.nm) = false; rw [hnm]; rfl
        have Hnm := Lib.hid hnm
        clear hnm
        go_upto_region 5 with fail
        have hcx2 := check_ok Hcx.out; have hcy2 := check_ok Hcy.out
        have HSX := Lib.hid (fun (u : World) (hu : Below w.heap.size w u) => sum_any X A n c u (HaX.out u hu) (by have := hcx2.2.2.2.1; have := hlX.out; omega) hcx2.2.1 hcx2.2.2.1 (fun j hj => held_am hcx2.2.2.2.2.1 j hj))
        have HSY := Lib.hid (fun (u : World) (hu : Below w.heap.size w u) => sum_any Y A' n' c' u (HaY.out u hu) (by have := hcy2.2.2.2.1; have := hlY.out; omega) hcy2.2.1 hcy2.2.2.1 (fun j hj => held_am hcy2.2.2.2.2.1 j hj))
        clear hcx2 hcy2
        clear y0 y1 y2 y3 y4 y5 y6 y7 y8 y9 y10 y11 z0 z1 z2 z3 z4 z5 z6 z7 z8 z9 z10 z11 hneq e3
        obtain ⟨Vx, hVx⟩ : ∃ V : Value, V = .agg #[.int .u8 (X.nm.x0 : Int), .int .u8 (X.nm.x1 : Int), .int .u8 (X.nm.x2 : Int), .int .u8 (X.nm.x3 : Int), .int .u8 (X.nm.x4 : Int), .int .u8 (X.nm.x5 : Int), .int .u8 (X.nm.x6 : Int), .int .u8 (X.nm.x7 : Int), .int .i64 X.no, .int .i64 X.h0, .int .i64 X.h1, .slice A n c] := ⟨_, rfl⟩
        obtain ⟨Vy, hVy⟩ : ∃ V : Value, V = .agg #[.int .u8 (Y.nm.x0 : Int), .int .u8 (Y.nm.x1 : Int), .int .u8 (Y.nm.x2 : Int), .int .u8 (Y.nm.x3 : Int), .int .u8 (Y.nm.x4 : Int), .int .u8 (Y.nm.x5 : Int), .int .u8 (Y.nm.x6 : Int), .int .u8 (Y.nm.x7 : Int), .int .i64 Y.no, .int .i64 Y.h0, .int .i64 Y.h1, .slice A' n' c'] := ⟨_, rfl⟩
        rw [← hVx] at HSX
        rw [← hVy] at HSY
        have hlx : ∀ w', Below w2.heap.size w2 w' → (Instr.loadAt 35 (.pointer (some ⟨w.heap.size + 1, 0, none⟩))).run Try.prog w' = .ok Vx w' := fun w' hw => by rw [hVx]; exact loadPu (block_below HX2.out hw hl2)
        have hly : ∀ w', Below w2.heap.size w2 w' → (Instr.loadAt 35 (.pointer (some ⟨w.heap.size + 1 + 1, 0, none⟩))).run Try.prog w' = .ok Vy w' := fun w' hw => by rw [hVy]; exact loadPu (block_below HY2.out hw hl1)
        have Hly := Lib.hid hly
        have HD := Lib.hid (fun (u : World) (hu : Below w.heap.size w u) => digest_any Y A' n' c' u (HaY.out u hu) Hok.out)
        rw [← hVy] at HD
        clear hVx hVy
        have Hb0 := Lib.hid (show Below w2.heap.size w2 w2.drew from (Below.refl _ _).drew)
        have hS1 := Hb0.out
        refine wp_region_held_drew (S := fun w' => Below w2.heap.size w2 w') (by kernel_rfl) hS1 (fun hHeld => ?_)
        rw [show Array.replicate _ false = (#[false, false, false, false, false, false] : Array Bool) from rfl]
        generalize w2.drew = u0 at *
        refine takeH 0 (some 27) (v := Vx) rfl (by kernel_rfl) (by kernel_rfl) (by kernel_rfl) (by kernel_rfl) (fun _ _ _ h => h) (Or.inl ⟨by kernel_rfl, ?hy⟩) (by assumption) ?_
        case hy =>
          intro w' hSw
          simp [execOp, Act.eval, hlx w' hSw, Result.andThen]
        simp only [Act.put, List.setIfInBounds_toArray, List.set_cons_zero, List.set_cons_succ]
        refine takeH 2 (some 29) (v := Vy) rfl (by kernel_rfl) (by kernel_rfl) (by kernel_rfl) (by kernel_rfl) (fun _ _ _ h => h) (Or.inl ⟨by kernel_rfl, ?hy⟩) (by assumption) ?_
        case hy =>
          intro w' hSw
          simp [execOp, Act.eval, hly w' hSw, Result.andThen]
        simp only [Act.put, List.setIfInBounds_toArray, List.set_cons_zero, List.set_cons_succ]
        clear hS1
        refine wpAnyH_ready (rs := [1]) (by kernel_rfl) (by simp) ?_
        refine AllReadyH.cons rfl (fun K hK => ?_) AllReadyH.nil
        rw [if_pos (by kernel_rfl)]
        go_simp
        refine (HSX.out u0 (Hw2.out.trans (Hb0.out.mono Hw2.out.size))).mono ?_
        rintro e u1 ⟨rfl, hb⟩
        have Hb1 := Lib.hid (Hb0.out.trans (hb.mono Hb0.out.size))
        clear hb
        refine hK.out _ _ Hb1.out (fun _ => ?_)
        clear hK K
        simp only [List.setIfInBounds_toArray, List.set_cons_zero, List.set_cons_succ]
        refine wpAnyH_ready (rs := [3]) (by kernel_rfl) (by simp) ?_
        refine AllReadyH.cons rfl (fun K hK => ?_) AllReadyH.nil
        rw [if_pos (by kernel_rfl)]
        go_simp
        refine (HSY.out u1 (Hw2.out.trans (Hb1.out.mono Hw2.out.size))).mono ?_
        rintro e u2 ⟨rfl, hb⟩
        have Hb2 := Lib.hid (Hb1.out.trans (hb.mono Hb1.out.size))
        clear hb
        refine hK.out _ _ Hb2.out (fun _ => ?_)
        clear hK K
        simp only [List.setIfInBounds_toArray, List.set_cons_zero, List.set_cons_succ]
        have hS1 := Hb2.out
        refine takeH 4 (some 31) (v := ?_) rfl (by kernel_rfl) (by kernel_rfl) (by kernel_rfl) (by kernel_rfl) (fun _ _ _ h => h) (Or.inl ⟨by kernel_rfl, ?hy⟩) (by assumption) ?_
        case hy =>
          intro w' hSw
          clear hSw
          first
            | (go_simp; done)
            | (go_simp; with_reducible rfl)
        simp only [Act.put, List.setIfInBounds_toArray, List.set_cons_zero, List.set_cons_succ]
        refine takeH 5 (some 26) (v := ?_) rfl (by kernel_rfl) (by kernel_rfl) (by kernel_rfl) (by kernel_rfl) (fun _ _ _ h => h) (Or.inl ⟨by kernel_rfl, ?hy⟩) (by assumption) ?_
        case hy =>
          intro w' hSw
          clear hSw
          first
            | (go_simp; done)
            | (go_simp; with_reducible rfl)
        simp only [Act.put, List.setIfInBounds_toArray, List.set_cons_zero, List.set_cons_succ]
        refine wpAnyH_done (by kernel_rfl) ?_ _
        clear hS1
        have HK3 := Lib.hid (block_below HK2.out Hb2.out (block_lt HK2.out)); have HX3 := Lib.hid (block_below HX2.out Hb2.out (block_lt HX2.out)); have HY3 := Lib.hid (block_below HY2.out Hb2.out (block_lt HY2.out)); have HS3 := Lib.hid (block_below HS2.out Hb2.out (block_lt HS2.out)); have Hw3 := Lib.hid (Hw2.out.trans (Hb2.out.mono Hw2.out.size))
        clear HK2 HX2 HY2 HS2 Hw2 Hb0 Hb1 HSX HSY hlx hly hl1 hl2
        by_cases hsum : X.sum = Y.sum
        · have e4 : (X.sum != Y.sum) = false := by simpa using hsum
          have Hsum := Lib.hid hsum
          clear hsum
          have hl1 := block_lt HY3.out; have hl2 := block_lt HX3.out
          obtain ⟨y0, y1, y2, y3, y4, y5, y6, y7, y8, y9, y10, y11⟩ := PBox.all HY3.out
          obtain ⟨z0, z1, z2, z3, z4, z5, z6, z7, z8, z9, z10, z11⟩ := PBox.all HX3.out
          by_cases hno : Y.no ≤ X.no
          · have e5 : decide (Y.no ≤ X.no) = true := decide_eq_true hno
            have Hr : Hid (newI X Y (allI 2 2 (missTo (lacksE L Y.digest [k0, k1] [s0, s1] []) 2)) = 18) := Lib.hid (by unfold newI; simp [Hcx.out, Hcy.out, Hnm.out, Hsum.out, hno])
            go_wp2
            go_ret
            exact ⟨ret_int Hr.out.symm, Hw3.out⟩
          · have e5 : decide (Y.no ≤ X.no) = false := decide_eq_false hno
            have Hno := Lib.hid hno
            clear hno
            go_upto_region 9 with fail
            clear y0 y1 y2 y3 y4 y5 y6 y7 y8 y9 y10 y11 z0 z1 z2 z3 z4 z5 z6 z7 z8 z9 z10 z11
            have hly : ∀ w', Below u2.heap.size u2 w' → (Instr.loadAt 35 (.pointer (some ⟨w.heap.size + 1 + 1, 0, none⟩))).run Try.prog w' = .ok Vy w' := fun w' hw => Hly.out w' (Hb2.out.trans (hw.mono Hb2.out.size))
            have HAl := Lib.hid (fun (u : World) (hu : Below u2.heap.size u2 u) => all_any B bk mb L [k0, k1] (some ⟨w.heap.size, 0, none⟩) 2 2 Y.digest [s0, s1] (some ⟨w.heap.size + 1 + 1 + 1, 0, none⟩) 2 2 [] none 0 0 u
              (HaB.out u (Hw3.out.trans (hu.mono Hw3.out.size))) Hlen.out (keys_rd (block_below HK3.out hu (block_lt HK3.out))) (by intro x hx; simp at hx; rcases hx with rfl | rfl; exact Hk0.out; exact Hk1.out) (digest_ok Y)
              (sigs_rd (block_below HS3.out hu (block_lt HS3.out)) ((Hs0.out.below (Hw3.out.trans (hu.mono Hw3.out.size)) (Nat.le_refl _)).more (Hw3.out.trans (hu.mono Hw3.out.size)).size) ((Hs1.out.below (Hw3.out.trans (hu.mono Hw3.out.size)) (Nat.le_refl _)).more (Hw3.out.trans (hu.mono Hw3.out.size)).size))
              (by intro s hs; simp at hs; rcases hs with rfl | rfl; exact Hso0.out; exact Hso1.out) ⟨rfl, fun h => absurd h (by omega)⟩ (by decide))
            have Hna : Hid (∀ x, newI X Y x = if x ≠ 0 then 16 else 0) := Lib.hid (fun x => by unfold newI; simp [Hcx.out, Hcy.out, Hnm.out, Hsum.out, Hno.out])
            have hsk := fun u : World => slice_two (w := u) (b := w.heap.size) (sz := 8) (t := 39) (by kernel_rfl) (by kernel_rfl) (fun u => by kernel_rfl)
            have hss := fun u : World => slice_two (w := u) (b := w.heap.size + 1 + 1 + 1) (sz := 1) (t := 41) (by kernel_rfl) (by kernel_rfl) (fun u => by kernel_rfl)
            obtain ⟨al, hal0⟩ : ∃ x, x = allI 2 2 (missTo (lacksE L Y.digest [k0, k1] [s0, s1] []) 2) := ⟨_, rfl⟩
            rw [← hal0] at HAl
            have Hale := Lib.hid hal0
            obtain ⟨dd, hdd⟩ : ∃ x, x = Y.digest := ⟨_, rfl⟩
            rw [← hdd] at HAl HD
            clear hal0 hdd
            have Hb0 := Lib.hid (show Below u2.heap.size u2 u2.drew from (Below.refl _ _).drew)
            have hS1 := Hb0.out
            refine wp_region_held_drew (S := fun w' => Below u2.heap.size u2 w') (by kernel_rfl) hS1 (fun hHeld => ?_)
            rw [show Array.replicate _ false = (#[false, false, false, false, false, false, false, false] : Array Bool) from rfl]
            generalize u2.drew = v0 at *
            refine takeH 1 (some 40) (v := ?_) rfl (by kernel_rfl) (by kernel_rfl) (by kernel_rfl) (by kernel_rfl) (fun _ _ _ h => h) (Or.inl ⟨by kernel_rfl, ?hy⟩) (by assumption) ?_
            case hy =>
              intro w' hSw
              clear hSw
              first
                | (go_simp; done)
                | (go_simp; with_reducible rfl)
            simp only [Act.put, List.setIfInBounds_toArray, List.set_cons_zero, List.set_cons_succ]
            refine takeH 0 (some 39) (v := ?_) rfl (by kernel_rfl) (by kernel_rfl) (by kernel_rfl) (by kernel_rfl) (fun _ _ _ h => h) (Or.inl ⟨by kernel_rfl, ?hy⟩) (by assumption) ?_
            case hy =>
              intro w' hSw
              clear hSw
              first
                | (go_simp; done)
                | (go_simp; with_reducible rfl)
            simp only [Act.put, List.setIfInBounds_toArray, List.set_cons_zero, List.set_cons_succ]
            refine takeH 2 (some 41) (v := Vy) rfl (by kernel_rfl) (by kernel_rfl) (by kernel_rfl) (by kernel_rfl) (fun _ _ _ h => h) (Or.inl ⟨by kernel_rfl, ?hy⟩) (by assumption) ?_
            case hy =>
              intro w' hSw
              simp [execOp, Act.eval, hly w' hSw, Result.andThen]
            simp only [Act.put, List.setIfInBounds_toArray, List.set_cons_zero, List.set_cons_succ]
            refine takeH 4 (some 43) (v := ?_) rfl (by kernel_rfl) (by kernel_rfl) (by kernel_rfl) (by kernel_rfl) (fun _ _ _ h => h) (Or.inl ⟨by kernel_rfl, ?hy⟩) (by assumption) ?_
            case hy =>
              intro w' hSw
              clear hSw
              first
                | (go_simp; done)
                | (go_simp; with_reducible rfl)
            simp only [Act.put, List.setIfInBounds_toArray, List.set_cons_zero, List.set_cons_succ]
            clear hS1 hly hsk hss
            refine wpAnyH_ready (rs := [3]) (by kernel_rfl) (by simp) ?_
            refine AllReadyH.cons rfl (fun K hK => ?_) AllReadyH.nil
            rw [if_pos (by kernel_rfl)]
            go_simp
            refine (HD.out v0 (Hw3.out.trans (Hb0.out.mono Hw3.out.size))).mono ?_
            rintro e v1 ⟨rfl, hb⟩
            have Hv1 := Lib.hid (Hb0.out.trans (hb.mono Hb0.out.size))
            clear hb
            refine hK.out _ _ Hv1.out (fun _ => ?_)
            clear hK K
            simp only [List.setIfInBounds_toArray, List.set_cons_zero, List.set_cons_succ]
            refine wpAnyH_ready (rs := [5]) (by kernel_rfl) (by simp) ?_
            refine AllReadyH.cons rfl (fun K hK => ?_) AllReadyH.nil
            rw [if_pos (by kernel_rfl)]
            go_simp
            refine (HAl.out v1 Hv1.out).mono ?_
            rintro e v2 ⟨rfl, hb⟩
            have Hv2 := Lib.hid (Hv1.out.trans (hb.mono Hv1.out.size))
            clear hb
            refine hK.out _ _ Hv2.out (fun _ => ?_)
            clear hK K
            simp only [List.setIfInBounds_toArray, List.set_cons_zero, List.set_cons_succ]
            have hS1 := Hv2.out
            refine takeH 6 (some 45) (v := ?_) rfl (by kernel_rfl) (by kernel_rfl) (by kernel_rfl) (by kernel_rfl) (fun _ _ _ h => h) (Or.inl ⟨by kernel_rfl, ?hy⟩) (by assumption) ?_
            case hy =>
              intro w' hSw
              clear hSw
              first
                | (go_simp; done)
                | (go_simp; with_reducible rfl)
            simp only [Act.put, List.setIfInBounds_toArray, List.set_cons_zero, List.set_cons_succ]
            refine takeH 7 (some 38) (v := ?_) rfl (by kernel_rfl) (by kernel_rfl) (by kernel_rfl) (by kernel_rfl) (fun _ _ _ h => h) (Or.inl ⟨by kernel_rfl, ?hy⟩) (by assumption) ?_
            case hy =>
              intro w' hSw
              clear hSw
              first
                | (go_simp; done)
                | (go_simp; with_reducible rfl)
            simp only [Act.put, List.setIfInBounds_toArray, List.set_cons_zero, List.set_cons_succ]
            refine wpAnyH_done (by kernel_rfl) ?_ _
            clear hS1
            by_cases hal : al = 0
            · have e6 : (al != 0) = false := by simpa using hal
              go_wp2
              go_ret
              exact ⟨ret_int (by rw [← Hale.out, Hna.out, if_neg (by simpa using hal)]), Hw3.out.trans (Hv2.out.mono Hw3.out.size)⟩
            · have e6 : (al != 0) = true := by simpa using hal
              have Hal := Lib.hid hal
              clear hal
              go_wp2
              go_ret
              exact ⟨ret_int (by rw [← Hale.out, Hna.out, if_pos Hal.out]), Hw3.out.trans (Hv2.out.mono Hw3.out.size)⟩
        · have e4 : (X.sum != Y.sum) = true := by simpa using hsum
          have Hr : Hid (newI X Y (allI 2 2 (missTo (lacksE L Y.digest [k0, k1] [s0, s1] []) 2)) = 22) := Lib.hid (by unfold newI; simp [Hcx.out, Hcy.out, Hnm.out, hsum])
          clear hsum
          go_wp2
          go_ret
          exact ⟨ret_int Hr.out.symm, Hw3.out⟩
    · have e2 : (Y.check != 0) = true := by simpa using hcy
      have Hr : Hid (newI X Y (allI 2 2 (missTo (lacksE L Y.digest [k0, k1] [s0, s1] []) 2)) = 3) := Lib.hid (by unfold newI; rw [if_neg (by rw [Hcx.out]; simp), if_pos hcy])
      clear hcy
      go_wp2
      go_ret
      exact ⟨ret_int Hr.out.symm, Hw2.out⟩
  · have e1 : (X.check != 0) = true := by simpa using hcx
    have Hr : Hid (newI X Y (allI 2 2 (missTo (lacksE L Y.digest [k0, k1] [s0, s1] []) 2)) = 3) := Lib.hid (by unfold newI; rw [if_pos hcx])
    clear hcx
    go_wp2
    go_ret
    exact ⟨ret_int Hr.out.symm, Hw1.out⟩
end Go.Proofs.Ythjpaclcoipocaa
