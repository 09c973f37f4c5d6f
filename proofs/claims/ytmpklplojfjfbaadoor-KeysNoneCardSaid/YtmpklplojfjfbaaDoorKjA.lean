/- A nil ring, a height that may not be, a ledger handed out: the walks of what a ring answers then. Condition: none. -/
import Derived.Test.YtmpklplojfjfbaaDoorKeZ
import Derived.Test.YtmpklplojfjfbaaDoorKgC
namespace Go.Proofs.YtmpklplojfjfbaaDoor
open Go.RowKit Go.Lib



set_option maxRecDepth 100000 in
set_option maxHeartbeats 2000000 in
theorem reserve_nil (m : D8) (w : World) : Calls Tryd.prog 7 #[.pointer none, .agg #[.int .u8 (m.x0 : Int), .int .u8 (m.x1 : Int), .int .u8 (m.x2 : Int), .int .u8 (m.x3 : Int), .int .u8 (m.x4 : Int), .int .u8 (m.x5 : Int), .int .u8 (m.x6 : Int), .int .u8 (m.x7 : Int)]] w fun e w' => e = .returned (.tuple #[.int .i64 0, .int .i64 1]) ∧ Below w.heap.size w w' := by
  have Hb := Lib.hid (h_one w (.cells #[.int .u8 (m.x0 : Int), .int .u8 (m.x1 : Int), .int .u8 (m.x2 : Int), .int .u8 (m.x3 : Int), .int .u8 (m.x4 : Int), .int .u8 (m.x5 : Int), .int .u8 (m.x6 : Int), .int .u8 (m.x7 : Int)] 27))
  go_enter Tryd.func7, Tryd.ntmps7
  go_wp2
  go_ret2
  exact ⟨rfl, Hb.out⟩
set_option maxRecDepth 100000 in
set_option maxHeartbeats 2000000 in
theorem sign_nil (m : D8) (w : World) : Calls Tryd.prog 8 #[.pointer none, .agg #[.int .u8 (m.x0 : Int), .int .u8 (m.x1 : Int), .int .u8 (m.x2 : Int), .int .u8 (m.x3 : Int), .int .u8 (m.x4 : Int), .int .u8 (m.x5 : Int), .int .u8 (m.x6 : Int), .int .u8 (m.x7 : Int)]] w fun e w' => e = .returned (.tuple #[.slice none 0 0, .int .i64 1]) ∧ Below w.heap.size w w' := by
  have Hb := Lib.hid (h_one w (.cells #[.int .u8 (m.x0 : Int), .int .u8 (m.x1 : Int), .int .u8 (m.x2 : Int), .int .u8 (m.x3 : Int), .int .u8 (m.x4 : Int), .int .u8 (m.x5 : Int), .int .u8 (m.x6 : Int), .int .u8 (m.x7 : Int)] 27))
  have HX : Hid ((w.alloc (.cells #[.int .u8 (m.x0 : Int), .int .u8 (m.x1 : Int), .int .u8 (m.x2 : Int), .int .u8 (m.x3 : Int), .int .u8 (m.x4 : Int), .int .u8 (m.x5 : Int), .int .u8 (m.x6 : Int), .int .u8 (m.x7 : Int)] 27)).heap[w.heap.size]? = some (.cells #[.int .u8 (m.x0 : Int), .int .u8 (m.x1 : Int), .int .u8 (m.x2 : Int), .int .u8 (m.x3 : Int), .int .u8 (m.x4 : Int), .int .u8 (m.x5 : Int), .int .u8 (m.x6 : Int), .int .u8 (m.x7 : Int)] 27 (0, 0))) := heap_alloc_new w _
  go_enter Tryd.func8, Tryd.ntmps8
  go_upto_region 1 with fail
  generalize w.alloc (.cells #[.int .u8 (m.x0 : Int), .int .u8 (m.x1 : Int), .int .u8 (m.x2 : Int), .int .u8 (m.x3 : Int), .int .u8 (m.x4 : Int), .int .u8 (m.x5 : Int), .int .u8 (m.x6 : Int), .int .u8 (m.x7 : Int)] 27) = v0 at *
  obtain ⟨zf, r0, r1, r2, r3, r4, r5, r6, r7⟩ := free8 HX.out
  have hl := block_lt HX.out
  clear zf
  go_wp2_with fail
  refine (reserve_nil m v0).mono ?_
  rintro e v1 ⟨rfl, hb1⟩
  have Hb1 := Lib.hid (Hb.out.trans (hb1.mono Hb.out.size))
  clear hb1 r0 r1 r2 r3 r4 r5 r6 r7
  go_wp2
  go_ret2
  exact ⟨rfl, Hb1.out⟩
set_option maxRecDepth 100000 in
set_option maxHeartbeats 2000000 in
theorem leaf_nil (m : D8) (w : World) : Calls Tryd.prog 9 #[.pointer none, .agg #[.int .u8 (m.x0 : Int), .int .u8 (m.x1 : Int), .int .u8 (m.x2 : Int), .int .u8 (m.x3 : Int), .int .u8 (m.x4 : Int), .int .u8 (m.x5 : Int), .int .u8 (m.x6 : Int), .int .u8 (m.x7 : Int)]] w fun e w' => e = .returned (.tuple #[.int .i64 0, .bool false]) ∧ Below w.heap.size w w' := by
  have Hb := Lib.hid (h_one w (.cells #[.int .u8 (m.x0 : Int), .int .u8 (m.x1 : Int), .int .u8 (m.x2 : Int), .int .u8 (m.x3 : Int), .int .u8 (m.x4 : Int), .int .u8 (m.x5 : Int), .int .u8 (m.x6 : Int), .int .u8 (m.x7 : Int)] 27))
  go_enter Tryd.func9, Tryd.ntmps9
  go_wp2
  go_ret2
  exact ⟨rfl, Hb.out⟩
theorem used_nil (w : World) : Calls Tryd.prog 10 #[.pointer none] w fun e w' => e = .returned (.int .i64 0) ∧ Below w.heap.size w w' := by
  go_enter Tryd.func10, Tryd.ntmps10
  go_wp2
  go_ret
  exact ⟨rfl, Below.refl _ _⟩
theorem left_nil (w : World) : Calls Tryd.prog 11 #[.pointer none] w fun e w' => e = .returned (.int .i64 0) ∧ Below w.heap.size w w' := by
  go_enter Tryd.func11, Tryd.ntmps11
  go_wp2
  go_ret
  exact ⟨rfl, Below.refl _ _⟩
theorem ledger_nil (w : World) : Calls Tryd.prog 12 #[.pointer none] w fun e w' => e = .returned (.slice none 0 0) ∧ Below w.heap.size w w' := by
  go_enter Tryd.func12, Tryd.ntmps12
  go_wp2
  go_ret
  exact ⟨rfl, Below.refl _ _⟩
theorem save_nil (w : World) : Calls Tryd.prog 13 #[.pointer none] w fun e w' => e = .returned (.slice none 0 0) ∧ Below w.heap.size w w' := by
  go_enter Tryd.func13, Tryd.ntmps13
  go_wp2
  go_ret
  exact ⟨rfl, Below.refl _ _⟩
theorem clone_nil (w : World) : Calls Tryd.prog 14 #[.pointer none] w fun e w' => e = .returned (.pointer none) ∧ Below w.heap.size w w' := by
  go_enter Tryd.func14, Tryd.ntmps14
  go_wp2
  go_ret
  exact ⟨rfl, Below.refl _ _⟩
set_option maxRecDepth 100000 in
set_option maxHeartbeats 2000000 in
theorem public_nil (w : World) : Calls Tryd.prog 16 #[.pointer none] w fun e w' => e = .returned (.agg #[.int .u8 0, .int .u8 0, .int .u8 0, .int .u8 0, .int .u8 0, .int .u8 0, .int .u8 0, .int .u8 0]) ∧ Below w.heap.size w w' := by
  have HX : Hid ((w.alloc (.cells #[.int .u8 0, .int .u8 0, .int .u8 0, .int .u8 0, .int .u8 0, .int .u8 0, .int .u8 0, .int .u8 0] 27)).heap[w.heap.size]? = some (.cells #[.int .u8 0, .int .u8 0, .int .u8 0, .int .u8 0, .int .u8 0, .int .u8 0, .int .u8 0, .int .u8 0] 27 (0, 0))) := heap_alloc_new w _
  have Hw0 := Lib.hid (h_one w (.cells #[.int .u8 0, .int .u8 0, .int .u8 0, .int .u8 0, .int .u8 0, .int .u8 0, .int .u8 0, .int .u8 0] 27))
  go_enter Tryd.func16, Tryd.ntmps16
  go_upto_region 1 with fail
  generalize w.alloc (.cells #[.int .u8 0, .int .u8 0, .int .u8 0, .int .u8 0, .int .u8 0, .int .u8 0, .int .u8 0, .int .u8 0] 27) = v0 at *
  obtain ⟨zf, r0, r1, r2, r3, r4, r5, r6, r7⟩ := free8 HX.out
  have Hbx := Lib.hid HX.out; have Hbw := Lib.hid Hw0.out
  clear HX Hw0
  go_wp2
  clear zf r0 r1 r2 r3 r4 r5 r6 r7
  have h8 := set8 Hbx.out (.int .u8 0) (.int .u8 0) (.int .u8 0) (.int .u8 0) (.int .u8 0) (.int .u8 0) (.int .u8 0) (.int .u8 0)
  have hg8 := grown_set8 v0 (w.heap.size) (.int .u8 0) (.int .u8 0) (.int .u8 0) (.int .u8 0) (.int .u8 0) (.int .u8 0) (.int .u8 0) (.int .u8 0)
  generalize ((((((((v0.setCell ⟨w.heap.size, 0, none⟩ (.int .u8 0)).setCell ⟨w.heap.size, 1, none⟩ (.int .u8 0)).setCell ⟨w.heap.size, 2, none⟩ (.int .u8 0)).setCell ⟨w.heap.size, 3, none⟩ (.int .u8 0)).setCell ⟨w.heap.size, 4, none⟩ (.int .u8 0)).setCell ⟨w.heap.size, 5, none⟩ (.int .u8 0)).setCell ⟨w.heap.size, 6, none⟩ (.int .u8 0)).setCell ⟨w.heap.size, 7, none⟩ (.int .u8 0)) = v1 at *
  obtain ⟨zf, r0, r1, r2, r3, r4, r5, r6, r7⟩ := free8 h8
  have Hb2 := Lib.hid (Hbw.out.grown hg8 Hbw.out.size (fun k hk => by injection hk with hk; omega))
  clear h8 hg8
  refine bodyPost_ret (v := .agg #[.int .u8 0, .int .u8 0, .int .u8 0, .int .u8 0, .int .u8 0, .int .u8 0, .int .u8 0, .int .u8 0]) (by simp [results, Tryd.results16, go_sem, r0, r1, r2, r3, r4, r5, r6, r7]) rfl ⟨rfl, Hb2.out⟩
set_option maxRecDepth 100000 in
set_option maxHeartbeats 2000000 in
theorem ledger_any {w : World} {B : Nat} {F : Nat → Prop} {br mb h : Nat} {s : D8} {pt : Value} {L : List D8} (l : LedAt w B F br mb s h pt L) (hL : L.length ≤ 1000) :
    Calls Tryd.prog 12 #[.pointer (some ⟨br, 0, none⟩)] w fun e w' => ∃ A c, e = .returned (.slice A L.length c) ∧ w'.ownsRow w.heap.size 27 8 (.slice A L.length c) L.length (flatD L) ∧ Below w.heap.size w w' := by
  obtain ⟨A, c, hb, ho, hg⟩ := l.cells
  obtain ⟨yf, y0, y1, y2, y3, y4, y5, y6, y7, y8, y9, y10, y11⟩ := freeR hb
  have hpb := block_lt hb
  have Hr := Lib.hid (Rd.of_own ho)
  have Hc := Lib.hid (sdclone_any L A L.length c w Hr.out (by omega))
  clear yf y0 y1 y2 y3 y4 y5 y6 y7 y8 y9 y11 ho hg hb
  go_enter Tryd.func12, Tryd.ntmps12
  go_wp2_with fail
  refine Hc.out.mono ?_
  rintro r w1 ⟨A', c', rfl, ho, hb⟩
  have Ho := Lib.hid ho; have Hb := Lib.hid hb
  clear ho hb
  go_wp2
  go_ret
  exact ⟨A', c', rfl, Ho.out, Hb.out⟩
end Go.Proofs.YtmpklplojfjfbaaDoor
