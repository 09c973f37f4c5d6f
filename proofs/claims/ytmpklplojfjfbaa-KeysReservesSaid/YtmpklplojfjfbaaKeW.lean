/- Walks of a ring's own: own, Left, Used, take, Reserve. Condition: bounds on the height. -/
import Derived.Test.YtmpklplojfjfbaaKeG
import Derived.Laws.ShiftsVarLaws
namespace Go.Proofs.Ytmpklplojfjfbaa
open Go.RowKit Go.Lib



theorem freeR {w : World} {b : Nat} {s : D8} {h : Nat} {pt v : Value} {mb : Nat} (x : w.heap[b]? = some (.cells (ringC s h pt v mb) 62 (0, 0))) :
    (∀ i, w.frozen? ⟨b, i, none⟩ = false) ∧ w.cell? ⟨b, 0, none⟩ = some (.int .u8 (s.x0 : Int)) ∧ w.cell? ⟨b, 1, none⟩ = some (.int .u8 (s.x1 : Int)) ∧ w.cell? ⟨b, 2, none⟩ = some (.int .u8 (s.x2 : Int)) ∧ w.cell? ⟨b, 3, none⟩ = some (.int .u8 (s.x3 : Int)) ∧ w.cell? ⟨b, 4, none⟩ = some (.int .u8 (s.x4 : Int)) ∧ w.cell? ⟨b, 5, none⟩ = some (.int .u8 (s.x5 : Int)) ∧ w.cell? ⟨b, 6, none⟩ = some (.int .u8 (s.x6 : Int)) ∧ w.cell? ⟨b, 7, none⟩ = some (.int .u8 (s.x7 : Int)) ∧ w.cell? ⟨b, 8, none⟩ = some (.int .i64 (h : Int)) ∧ w.cell? ⟨b, 9, none⟩ = some pt ∧ w.cell? ⟨b, 10, none⟩ = some v ∧ w.cell? ⟨b, 11, none⟩ = some (.map (some mb)) :=
  ⟨block_free x, (block_cell x 0).trans rfl, (block_cell x 1).trans rfl, (block_cell x 2).trans rfl, (block_cell x 3).trans rfl, (block_cell x 4).trans rfl, (block_cell x 5).trans rfl, (block_cell x 6).trans rfl, (block_cell x 7).trans rfl, (block_cell x 8).trans rfl, (block_cell x 9).trans rfl, (block_cell x 10).trans rfl, (block_cell x 11).trans rfl⟩
set_option maxRecDepth 100000 in
set_option maxHeartbeats 2000000 in
theorem own_any (s : D8) (h : Nat) (pt v : Value) (mb br i : Nat) (w : World) (hs : s.ok) (hi : i < 1000000) (hb : w.heap[br]? = some (.cells (ringC s h pt v mb) 62 (0, 0))) :
    Calls Try.prog 23 #[.pointer (some ⟨br, 0, none⟩), .int .i64 (i : Int)] w fun e w' => e = .returned (.agg #[.int .u8 ((ownD s i).x0 : Int), .int .u8 ((ownD s i).x1 : Int), .int .u8 ((ownD s i).x2 : Int), .int .u8 ((ownD s i).x3 : Int), .int .u8 ((ownD s i).x4 : Int), .int .u8 ((ownD s i).x5 : Int), .int .u8 ((ownD s i).x6 : Int), .int .u8 ((ownD s i).x7 : Int)]) ∧ Below w.heap.size w w' := by
  have HX0 : Hid ((w.alloc (.cells #[.int .u8 0, .int .u8 0, .int .u8 0, .int .u8 0, .int .u8 0, .int .u8 0, .int .u8 0, .int .u8 0] 29)).heap[w.heap.size]? = some (.cells #[.int .u8 0, .int .u8 0, .int .u8 0, .int .u8 0, .int .u8 0, .int .u8 0, .int .u8 0, .int .u8 0] 29 (0, 0))) := heap_alloc_new w _
  have Hw0 := Lib.hid (h_one w (.cells #[.int .u8 0, .int .u8 0, .int .u8 0, .int .u8 0, .int .u8 0, .int .u8 0, .int .u8 0, .int .u8 0] 29))
  have HB0 := Lib.hid (block_alloc hb (.cells #[.int .u8 0, .int .u8 0, .int .u8 0, .int .u8 0, .int .u8 0, .int .u8 0, .int .u8 0, .int .u8 0] 29))
  have Hs := Lib.hid hs
  have hpb := block_lt HB0.out
  have hw64 : IntKind.u64.wrap (i : Int) = (i : Int) := by rw [IntKind.wrap_u64]; omega
  clear hs hb
  go_enter Try.func23, Try.ntmps23
  go_upto_region 1 with fail
  generalize w.alloc (.cells #[.int .u8 0, .int .u8 0, .int .u8 0, .int .u8 0, .int .u8 0, .int .u8 0, .int .u8 0, .int .u8 0] 29) = v0 at *
  obtain ⟨yf, y0, y1, y2, y3, y4, y5, y6, y7, y8, y9, y10, y11⟩ := freeR HB0.out
  clear yf y8 y9 y10 y11
  go_wp2_with fail
  refine (word_any s keyW v0 Hs.out (by decide)).mono ?_
  rintro e v1 ⟨rfl, hb1⟩
  have HX1 := Lib.hid (block_below HX0.out hb1 (block_lt HX0.out)); have Hw1 := Lib.hid (Hw0.out.trans (hb1.mono Hw0.out.size))
  have Hp : Hid (ownD s i = hashTwo (hashWord s (wordB keyW)) (D8.of i)) := Lib.hid rfl
  have Hq := Lib.hid (show (hashWord s (wordB keyW)).ok from hs_ok _)
  generalize hashWord s (wordB keyW) = q at *
  clear hb1 y0 y1 y2 y3 y4 y5 y6 y7 HX0 Hw0
  go_wp2_with fail
  refine (hfrom_any i v1 (by omega)).mono ?_
  rintro e v2 ⟨rfl, hb2⟩
  have HX2 := Lib.hid (block_below HX1.out hb2 (block_lt HX1.out)); have Hw2 := Lib.hid (Hw1.out.trans (hb2.mono Hw1.out.size))
  have Hq2 := Lib.hid (D8.of_ok i)
  generalize D8.of i = q2 at *
  clear hb2 HX1 Hw1
  go_wp2_with fail
  refine (two_any q q2 v2 Hq.out Hq2.out).mono ?_
  rintro e v3 ⟨rfl, hb3⟩
  have Hbx := Lib.hid (block_below HX2.out hb3 (block_lt HX2.out)); have Hbw := Lib.hid (Hw2.out.trans (hb3.mono Hw2.out.size))
  rw [← Hp.out]
  generalize hp : ownD s i = p at *
  have Hpp := Lib.hid hp
  obtain ⟨zf, r0, r1, r2, r3, r4, r5, r6, r7⟩ := free8 Hbx.out
  clear hb3 HX2 Hw2 hp
  go_wp2
  clear zf r0 r1 r2 r3 r4 r5 r6 r7
  have h8 := set8 Hbx.out (.int .u8 (p.x0 : Int)) (.int .u8 (p.x1 : Int)) (.int .u8 (p.x2 : Int)) (.int .u8 (p.x3 : Int)) (.int .u8 (p.x4 : Int)) (.int .u8 (p.x5 : Int)) (.int .u8 (p.x6 : Int)) (.int .u8 (p.x7 : Int))
  have hg8 := grown_set8 v3 (w.heap.size) (.int .u8 (p.x0 : Int)) (.int .u8 (p.x1 : Int)) (.int .u8 (p.x2 : Int)) (.int .u8 (p.x3 : Int)) (.int .u8 (p.x4 : Int)) (.int .u8 (p.x5 : Int)) (.int .u8 (p.x6 : Int)) (.int .u8 (p.x7 : Int))
  generalize ((((((((v3.setCell ⟨w.heap.size, 0, none⟩ (.int .u8 (p.x0 : Int))).setCell ⟨w.heap.size, 1, none⟩ (.int .u8 (p.x1 : Int))).setCell ⟨w.heap.size, 2, none⟩ (.int .u8 (p.x2 : Int))).setCell ⟨w.heap.size, 3, none⟩ (.int .u8 (p.x3 : Int))).setCell ⟨w.heap.size, 4, none⟩ (.int .u8 (p.x4 : Int))).setCell ⟨w.heap.size, 5, none⟩ (.int .u8 (p.x5 : Int))).setCell ⟨w.heap.size, 6, none⟩ (.int .u8 (p.x6 : Int))).setCell ⟨w.heap.size, 7, none⟩ (.int .u8 (p.x7 : Int))) = v4 at *
  obtain ⟨zf, r0, r1, r2, r3, r4, r5, r6, r7⟩ := free8 h8
  have Hb2 := Lib.hid (Hbw.out.grown hg8 Hbw.out.size (fun k hk => by injection hk with hk; omega))
  clear h8 hg8
  refine bodyPost_ret (v := .agg #[.int .u8 (p.x0 : Int), .int .u8 (p.x1 : Int), .int .u8 (p.x2 : Int), .int .u8 (p.x3 : Int), .int .u8 (p.x4 : Int), .int .u8 (p.x5 : Int), .int .u8 (p.x6 : Int), .int .u8 (p.x7 : Int)]) (by simp [results, Try.results23, go_sem, r0, r1, r2, r3, r4, r5, r6, r7]) rfl ⟨by rw [Hpp.out], Hb2.out⟩
theorem shl_one {h : Nat} (hh : h ≤ 8) : IntKind.i64.wrap ((2 : Int) ^ h) = ((2 ^ h : Nat) : Int) := by
  have h2 : ((2 ^ h : Nat) : Int) = (2 : Int) ^ h := by simp
  have hb := pow_le8 hh
  rw [IntKind.wrap_i64, ← h2]
  omega
section
variable {w : World} {B : Nat} {F : Nat → Prop} {br mb h : Nat} {s : D8} {pt : Value} {L : List D8}
set_option maxRecDepth 100000 in
set_option maxHeartbeats 2000000 in
theorem left_led (l : LedAt w B F br mb s h pt L) (hh : h ≤ 8) (hL : L.length ≤ 2 ^ h) :
    Calls Try.prog 25 #[.pointer (some ⟨br, 0, none⟩)] w fun e w' => e = .returned (.int .i64 ((2 ^ h - L.length : Nat) : Int)) ∧ Below w.heap.size w w' := by
  obtain ⟨A, c, hb, ho, hg⟩ := l.cells
  obtain ⟨yf, y0, y1, y2, y3, y4, y5, y6, y7, y8, y9, y10, y11⟩ := freeR hb
  have hpb := block_lt hb
  have hsh := shl_one hh
  have hp := pow_le8 hh
  have hh0 : decide ((h : Int) < 0) = false := by simp
  have Hsub : Hid (wrap64 ((2 : Int) ^ h - (L.length : Int)) = ((2 ^ h - L.length : Nat) : Int)) := by
    have h2 : ((2 ^ h : Nat) : Int) = (2 : Int) ^ h := by simp
    refine Lib.hid ?_
    rw [← h2]
    simp only [wrap64]
    omega
  clear y0 y1 y2 y3 y4 y5 y6 y7 y9 y11 ho hg hb
  go_enter Try.func25, Try.ntmps25
  go_wp2_with fail
  go_region
  all_goals
    go_wp2
    go_ret
    exact ⟨ret_int Hsub.out, (Below.refl _ _).drew⟩
set_option maxRecDepth 100000 in
set_option maxHeartbeats 2000000 in
theorem used_led (l : LedAt w B F br mb s h pt L) :
    Calls Try.prog 20 #[.pointer (some ⟨br, 0, none⟩)] w fun e w' => e = .returned (.int .i64 (L.length : Int)) ∧ Below w.heap.size w w' := by
  obtain ⟨A, c, hb, ho, hg⟩ := l.cells
  obtain ⟨yf, y0, y1, y2, y3, y4, y5, y6, y7, y8, y9, y10, y11⟩ := freeR hb
  have hpb := block_lt hb
  clear y0 y1 y2 y3 y4 y5 y6 y7 y8 y9 y11 ho hg hb
  go_enter Try.func20, Try.ntmps20
  go_wp2
  go_ret
  exact ⟨rfl, Below.refl _ _⟩
end
end Go.Proofs.Ytmpklplojfjfbaa
