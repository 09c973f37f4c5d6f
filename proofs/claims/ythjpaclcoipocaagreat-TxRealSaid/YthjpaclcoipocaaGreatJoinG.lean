/- A ring of keys in memory. Nothing of the program stands in it but its tables, so there is no condition. Walks of a ring's own: own, Left, Used, take, Reserve. Condition: bounds on the height. -/
import Derived.Test.YthjpaclcoipocaaGreatKeM
import Derived.Test.YthjpaclcoipocaaGreatKeN
import Derived.Laws.ShiftsVarLaws
namespace Go.Proofs.YthjpaclcoipocaaGreat
open Go.RowKit Go.Lib
/-- What changes lies in F alone, or is new. -/
structure Chg (F : Nat → Prop) (w w' : World) : Prop where
  os : w'.os = w.os
  tape : w'.tape = w.tape
  output : w'.output = w.output
  size : w.heap.size ≤ w'.heap.size
  block : ∀ k, k < w.heap.size → ¬ F k → w'.heap[k]? = w.heap[k]?
/-- With what is new. -/
def more (F : Nat → Prop) (w w' : World) : Nat → Prop := fun k => F k ∨ (w.heap.size ≤ k ∧ k < w'.heap.size)
theorem Chg.of_below {F : Nat → Prop} {w w' : World} (h : Below w.heap.size w w') : Chg F w w' := ⟨h.os, h.tape, h.output, h.size, fun k hk _ => h.block k hk⟩
theorem Chg.of_grown {F : Nat → Prop} {w w' : World} {g : Nat} (h : w.grownBy w' (some g)) (hg : F g) : Chg F w w' := ⟨h.os, h.tape, h.output, h.size, fun k hk hf => h.block k hk (by intro e; injection e with e; exact hf (e ▸ hg))⟩
theorem Chg.trans {F : Nat → Prop} {w w1 w2 : World} (h : Chg F w w1) (h2 : Chg (more F w w1) w1 w2) : Chg F w w2 :=
  ⟨h2.os.trans h.os, h2.tape.trans h.tape, h2.output.trans h.output, Nat.le_trans h.size h2.size, fun k hk hf => (h2.block k (Nat.lt_of_lt_of_le hk h.size) (by rintro (e | e); exact hf e; omega)).trans (h.block k hk hf)⟩
theorem Chg.trans0 {F : Nat → Prop} {w w1 w2 : World} (h : Chg F w w1) (h2 : Chg F w1 w2) : Chg F w w2 :=
  ⟨h2.os.trans h.os, h2.tape.trans h.tape, h2.output.trans h.output, Nat.le_trans h.size h2.size, fun k hk hf => (h2.block k (Nat.lt_of_lt_of_le hk h.size) hf).trans (h.block k hk hf)⟩
theorem Chg.refl (F : Nat → Prop) (w : World) : Chg F w w := ⟨rfl, rfl, rfl, Nat.le_refl _, fun _ _ _ => rfl⟩
theorem Chg.below {F : Nat → Prop} {w w' : World} {B : Nat} (h : Chg F w w') (hF : ∀ k, F k → B ≤ k) (hB : B ≤ w.heap.size) : Below B w w' :=
  ⟨h.os, h.tape, h.output, h.size, fun k hk => h.block k (by omega) (fun hf => by have := hF k hf; omega)⟩
theorem Chg.wide {F G : Nat → Prop} {w w' : World} (h : Chg F w w') (hF : ∀ k, F k → k < w.heap.size → G k) : Chg G w w' :=
  ⟨h.os, h.tape, h.output, h.size, fun k hk hg => h.block k hk (fun hf => hg (hF k hf hk))⟩
theorem more_ge {F : Nat → Prop} {w w' : World} {B : Nat} (hF : ∀ k, F k → B ≤ k) (hB : B ≤ w.heap.size) : ∀ k, more F w w' k → B ≤ k := by
  rintro k (h | h)
  · exact hF k h
  · omega
def ringC (s : D8) (h : Nat) (pt v : Value) (mb : Nat) : Array Value := #[.int .u8 (s.x0 : Int), .int .u8 (s.x1 : Int), .int .u8 (s.x2 : Int), .int .u8 (s.x3 : Int), .int .u8 (s.x4 : Int), .int .u8 (s.x5 : Int), .int .u8 (s.x6 : Int), .int .u8 (s.x7 : Int), .int .i64 (h : Int), pt, v, .map (some mb)]
/-- A ledger, and the map of its places. -/
structure LedAt (w : World) (B : Nat) (F : Nat → Prop) (br mb : Nat) (s : D8) (h : Nat) (pt : Value) (L : List D8) : Prop where
  cells : ∃ A c, w.heap[br]? = some (.cells (ringC s h pt (.slice A L.length c) mb) 68 (0, 0)) ∧ w.ownsRow B 30 8 (.slice A L.length c) L.length (flatD L) ∧ (∀ g, (Value.slice A L.length c).ownBlock = some g → F g)
  map : PlacesD w mb L
  nodup : L.Nodup
  ok : ∀ d ∈ L, d.ok
  fb : F br
  fm : F mb
  fl : ∀ k, F k → B ≤ k ∧ k < w.heap.size
theorem own_same {w w' : World} {base n sz : Nat} {e : TypeId} {v : Value} {xs : List Value} (h : w.ownsRow base e sz v n xs) (hk : ∀ g, v.ownBlock = some g → w'.heap[g]? = w.heap[g]?) : w'.ownsRow base e sz v n xs := own_keep h hk
section
variable {w w' : World} {B : Nat} {F : Nat → Prop} {br mb : Nat} {s : D8} {h : Nat} {pt : Value} {L : List D8}
theorem LedAt.kept (l : LedAt w B F br mb s h pt L) (hs : w.heap.size ≤ w'.heap.size) (hk : ∀ k, F k → w'.heap[k]? = w.heap[k]?) : LedAt w' B F br mb s h pt L := by
  obtain ⟨⟨A, c, h1, h2, h3⟩, hm, hn, ho, hb, hm2, hl⟩ := l
  exact ⟨⟨A, c, (hk _ hb).trans h1, own_same h2 (fun g hg => hk g (h3 g hg)), h3⟩, hm.same (hk _ hm2), hn, ho, hb, hm2, fun k hf => ⟨(hl k hf).1, Nat.lt_of_lt_of_le (hl k hf).2 hs⟩⟩
theorem LedAt.below (l : LedAt w B F br mb s h pt L) (hb : Below w.heap.size w w') : LedAt w' B F br mb s h pt L := l.kept hb.size (fun k hf => hb.block k (l.fl k hf).2)
theorem LedAt.br_lt (l : LedAt w B F br mb s h pt L) : br < w.heap.size := (l.fl _ l.fb).2
theorem LedAt.wide (l : LedAt w B F br mb s h pt L) {G : Nat → Prop} (hG : ∀ k, F k → G k) (hl : ∀ k, G k → B ≤ k ∧ k < w.heap.size) : LedAt w B G br mb s h pt L := by
  obtain ⟨⟨A, c, h1, h2, h3⟩, hm, hn, ho, hb, hm2, _⟩ := l
  exact ⟨⟨A, c, h1, h2, fun g hg => hG g (h3 g hg)⟩, hm, hn, ho, hG _ hb, hG _ hm2, hl⟩
end
/-- A ring: its ledger, and the tree of its keys. -/
structure RingAt (w : World) (B : Nat) (F : Nat → Prop) (T0 T1 br : Nat) (r : RingM) : Prop where
  led : ∃ mb bt, LedAt w B F br mb r.secret r.h (.pointer (some ⟨bt, 0, none⟩)) r.led ∧ TreeAt w T0 T1 bt r.h (keysD r.secret r.h)
  apart : ∀ k, F k → ¬ (T0 ≤ k ∧ k < T1)
  b0 : B ≤ T0
  b1 : T1 ≤ w.heap.size
  ok : r.ok
/-- All that a ring holds. -/
def foot (F : Nat → Prop) (T0 T1 : Nat) : Nat → Prop := fun k => F k ∨ (T0 ≤ k ∧ k < T1)
section
variable {w w' : World} {B : Nat} {F : Nat → Prop} {T0 T1 br : Nat} {r : RingM}
theorem RingAt.kept (a : RingAt w B F T0 T1 br r) (hs : w.heap.size ≤ w'.heap.size) (hk : ∀ k, foot F T0 T1 k → w'.heap[k]? = w.heap[k]?) : RingAt w' B F T0 T1 br r := by
  obtain ⟨⟨mb, bt, h1, h2⟩, ha, h0, h3, ho⟩ := a
  exact ⟨⟨mb, bt, h1.kept hs (fun k hf => hk k (.inl hf)), h2.kept (fun k h4 h5 => hk k (.inr ⟨h4, h5⟩)) hs⟩, ha, h0, Nat.le_trans h3 hs, ho⟩
theorem RingAt.foot_lt (a : RingAt w B F T0 T1 br r) : ∀ k, foot F T0 T1 k → B ≤ k ∧ k < w.heap.size := by
  obtain ⟨⟨mb, bt, h1, h2⟩, ha, h0, h3, ho⟩ := a
  rintro k (h | h)
  · exact h1.fl k h
  · omega
theorem RingAt.below (a : RingAt w B F T0 T1 br r) (hb : Below w.heap.size w w') : RingAt w' B F T0 T1 br r := a.kept hb.size (fun k hf => hb.block k (a.foot_lt k hf).2)
theorem RingAt.br_lt (a : RingAt w B F T0 T1 br r) : br < w.heap.size := by obtain ⟨⟨mb, bt, h1, h2⟩, _⟩ := a; exact h1.br_lt
/-- What another ring's doing leaves. -/
theorem RingAt.other (a : RingAt w B F T0 T1 br r) {G : Nat → Prop} (hc : Chg G w w') (hd : ∀ k, G k → ¬ foot F T0 T1 k) : RingAt w' B F T0 T1 br r :=
  a.kept hc.size (fun k hf => hc.block k (a.foot_lt k hf).2 (fun hg => hd k hg hf))
end
end Go.Proofs.YthjpaclcoipocaaGreat
namespace Go.Proofs.YthjpaclcoipocaaGreat
open Go.RowKit Go.Lib



theorem freeR {w : World} {b : Nat} {s : D8} {h : Nat} {pt v : Value} {mb : Nat} (x : w.heap[b]? = some (.cells (ringC s h pt v mb) 68 (0, 0))) :
    (∀ i, w.frozen? ⟨b, i, none⟩ = false) ∧ w.cell? ⟨b, 0, none⟩ = some (.int .u8 (s.x0 : Int)) ∧ w.cell? ⟨b, 1, none⟩ = some (.int .u8 (s.x1 : Int)) ∧ w.cell? ⟨b, 2, none⟩ = some (.int .u8 (s.x2 : Int)) ∧ w.cell? ⟨b, 3, none⟩ = some (.int .u8 (s.x3 : Int)) ∧ w.cell? ⟨b, 4, none⟩ = some (.int .u8 (s.x4 : Int)) ∧ w.cell? ⟨b, 5, none⟩ = some (.int .u8 (s.x5 : Int)) ∧ w.cell? ⟨b, 6, none⟩ = some (.int .u8 (s.x6 : Int)) ∧ w.cell? ⟨b, 7, none⟩ = some (.int .u8 (s.x7 : Int)) ∧ w.cell? ⟨b, 8, none⟩ = some (.int .i64 (h : Int)) ∧ w.cell? ⟨b, 9, none⟩ = some pt ∧ w.cell? ⟨b, 10, none⟩ = some v ∧ w.cell? ⟨b, 11, none⟩ = some (.map (some mb)) :=
  ⟨block_free x, (block_cell x 0).trans rfl, (block_cell x 1).trans rfl, (block_cell x 2).trans rfl, (block_cell x 3).trans rfl, (block_cell x 4).trans rfl, (block_cell x 5).trans rfl, (block_cell x 6).trans rfl, (block_cell x 7).trans rfl, (block_cell x 8).trans rfl, (block_cell x 9).trans rfl, (block_cell x 10).trans rfl, (block_cell x 11).trans rfl⟩
set_option maxRecDepth 100000 in
set_option maxHeartbeats 2000000 in
theorem own_any (s : D8) (h : Nat) (pt v : Value) (mb br i : Nat) (w : World) (hs : s.ok) (hi : i < 1000000) (hb : w.heap[br]? = some (.cells (ringC s h pt v mb) 68 (0, 0))) :
    Calls Tryz.prog 20 #[.pointer (some ⟨br, 0, none⟩), .int .i64 (i : Int)] w fun e w' => e = .returned (.agg #[.int .u8 ((ownD s i).x0 : Int), .int .u8 ((ownD s i).x1 : Int), .int .u8 ((ownD s i).x2 : Int), .int .u8 ((ownD s i).x3 : Int), .int .u8 ((ownD s i).x4 : Int), .int .u8 ((ownD s i).x5 : Int), .int .u8 ((ownD s i).x6 : Int), .int .u8 ((ownD s i).x7 : Int)]) ∧ Below w.heap.size w w' := by
  have HX0 : Hid ((w.alloc (.cells #[.int .u8 0, .int .u8 0, .int .u8 0, .int .u8 0, .int .u8 0, .int .u8 0, .int .u8 0, .int .u8 0] 30)).heap[w.heap.size]? = some (.cells #[.int .u8 0, .int .u8 0, .int .u8 0, .int .u8 0, .int .u8 0, .int .u8 0, .int .u8 0, .int .u8 0] 30 (0, 0))) := heap_alloc_new w _
  have Hw0 := Lib.hid (h_one w (.cells #[.int .u8 0, .int .u8 0, .int .u8 0, .int .u8 0, .int .u8 0, .int .u8 0, .int .u8 0, .int .u8 0] 30))
  have HB0 := Lib.hid (block_alloc hb (.cells #[.int .u8 0, .int .u8 0, .int .u8 0, .int .u8 0, .int .u8 0, .int .u8 0, .int .u8 0, .int .u8 0] 30))
  have Hs := Lib.hid hs
  have hpb := block_lt HB0.out
  have hw64 : IntKind.u64.wrap (i : Int) = (i : Int) := by rw [IntKind.wrap_u64]; omega
  clear hs hb
  go_enter Tryz.func20, Tryz.ntmps20
  go_upto_region 1 with fail
  generalize w.alloc (.cells #[.int .u8 0, .int .u8 0, .int .u8 0, .int .u8 0, .int .u8 0, .int .u8 0, .int .u8 0, .int .u8 0] 30) = v0 at *
  obtain ⟨yf, y0, y1, y2, y3, y4, y5, y6, y7, y8, y9, y10, y11⟩ := freeR HB0.out
  clear yf y8 y9 y10 y11
  go_wp2_with fail
  refine (word_any s keyW v0 Hs.out (by decide)).mono ?_
  rintro e v1 ⟨rfl, hb1⟩
  have HX1 := Lib.hid (block_below HX0.out hb1 (block_lt HX0.out)); have Hw1 := Lib.hid (Hw0.out.trans (hb1.mono Hw0.out.size))
  have Hp : Hid (ownD s i = hashTwo (hashWord s (wordB keyW)) (D8.of i)) := Lib.hid rfl
  have Hq := Lib.hid (show (hashWord s (wordB keyW)).ok from hs_ok _)
  generalize hashWord s (wordB keyW) = q at *
  clear hb1 y0 y1 y2 y3 y4 y5 y6 y7 HX0 Hw0
  go_wp2_with fail
  refine (hfrom_any i v1 (by omega)).mono ?_
  rintro e v2 ⟨rfl, hb2⟩
  have HX2 := Lib.hid (block_below HX1.out hb2 (block_lt HX1.out)); have Hw2 := Lib.hid (Hw1.out.trans (hb2.mono Hw1.out.size))
  have Hq2 := Lib.hid (D8.of_ok i)
  generalize D8.of i = q2 at *
  clear hb2 HX1 Hw1
  go_wp2_with fail
  refine (two_any q q2 v2 Hq.out Hq2.out).mono ?_
  rintro e v3 ⟨rfl, hb3⟩
  have Hbx := Lib.hid (block_below HX2.out hb3 (block_lt HX2.out)); have Hbw := Lib.hid (Hw2.out.trans (hb3.mono Hw2.out.size))
  rw [← Hp.out]
  generalize hp : ownD s i = p at *
  have Hpp := Lib.hid hp
  obtain ⟨zf, r0, r1, r2, r3, r4, r5, r6, r7⟩ := free8 Hbx.out
  clear hb3 HX2 Hw2 hp
  go_wp2
  clear zf r0 r1 r2 r3 r4 r5 r6 r7
  have h8 := set8 Hbx.out (.int .u8 (p.x0 : Int)) (.int .u8 (p.x1 : Int)) (.int .u8 (p.x2 : Int)) (.int .u8 (p.x3 : Int)) (.int .u8 (p.x4 : Int)) (.int .u8 (p.x5 : Int)) (.int .u8 (p.x6 : Int)) (.int .u8 (p.x7 : Int))
  have hg8 := grown_set8 v3 (w.heap.size) (.int .u8 (p.x0 : Int)) (.int .u8 (p.x1 : Int)) (.int .u8 (p.x2 : Int)) (.int .u8 (p.x3 : Int)) (.int .u8 (p.x4 : Int)) (.int .u8 (p.x5 : Int)) (.int .u8 (p.x6 : Int)) (.int .u8 (p.x7 : Int))
  generalize ((((((((v3.setCell ⟨w.heap.size, 0, none⟩ (.int .u8 (p.x0 : Int))).setCell ⟨w.heap.size, 1, none⟩ (.int .u8 (p.x1 : Int))).setCell ⟨w.heap.size, 2, none⟩ (.int .u8 (p.x2 : Int))).setCell ⟨w.heap.size, 3, none⟩ (.int .u8 (p.x3 : Int))).setCell ⟨w.heap.size, 4, none⟩ (.int .u8 (p.x4 : Int))).setCell ⟨w.heap.size, 5, none⟩ (.int .u8 (p.x5 : Int))).setCell ⟨w.heap.size, 6, none⟩ (.int .u8 (p.x6 : Int))).setCell ⟨w.heap.size, 7, none⟩ (.int .u8 (p.x7 : Int))) = v4 at *
  obtain ⟨zf, r0, r1, r2, r3, r4, r5, r6, r7⟩ := free8 h8
  have Hb2 := Lib.hid (Hbw.out.grown hg8 Hbw.out.size (fun k hk => by injection hk with hk; omega))
  clear h8 hg8
  refine bodyPost_ret (v := .agg #[.int .u8 (p.x0 : Int), .int .u8 (p.x1 : Int), .int .u8 (p.x2 : Int), .int .u8 (p.x3 : Int), .int .u8 (p.x4 : Int), .int .u8 (p.x5 : Int), .int .u8 (p.x6 : Int), .int .u8 (p.x7 : Int)]) (by simp [results, Tryz.results20, go_sem, r0, r1, r2, r3, r4, r5, r6, r7]) rfl ⟨by rw [Hpp.out], Hb2.out⟩
theorem shl_one {h : Nat} (hh : h ≤ 8) : IntKind.i64.wrap ((2 : Int) ^ h) = ((2 ^ h : Nat) : Int) := by
  have h2 : ((2 ^ h : Nat) : Int) = (2 : Int) ^ h := by simp
  have hb := pow_le8 hh
  rw [IntKind.wrap_i64, ← h2]
  omega
section
variable {w : World} {B : Nat} {F : Nat → Prop} {br mb h : Nat} {s : D8} {pt : Value} {L : List D8}
set_option maxRecDepth 100000 in
set_option maxHeartbeats 2000000 in
theorem left_led (l : LedAt w B F br mb s h pt L) (hh : h ≤ 8) (hL : L.length ≤ 2 ^ h) :
    Calls Tryz.prog 106 #[.pointer (some ⟨br, 0, none⟩)] w fun e w' => e = .returned (.int .i64 ((2 ^ h - L.length : Nat) : Int)) ∧ Below w.heap.size w w' := by
  obtain ⟨A, c, hb, ho, hg⟩ := l.cells
  obtain ⟨yf, y0, y1, y2, y3, y4, y5, y6, y7, y8, y9, y10, y11⟩ := freeR hb
  have hpb := block_lt hb
  have hsh := shl_one hh
  have hp := pow_le8 hh
  have hh0 : decide ((h : Int) < 0) = false := by simp
  have Hsub : Hid (wrap64 ((2 : Int) ^ h - (L.length : Int)) = ((2 ^ h - L.length : Nat) : Int)) := by
    have h2 : ((2 ^ h : Nat) : Int) = (2 : Int) ^ h := by simp
    refine Lib.hid ?_
    rw [← h2]
    simp only [wrap64]
    omega
  clear y0 y1 y2 y3 y4 y5 y6 y7 y9 y11 ho hg hb
  go_enter Tryz.func106, Tryz.ntmps106
  go_wp2_with fail
  go_region
  all_goals
    go_wp2
    go_ret
    exact ⟨ret_int Hsub.out, (Below.refl _ _).drew⟩
end
end Go.Proofs.YthjpaclcoipocaaGreat
