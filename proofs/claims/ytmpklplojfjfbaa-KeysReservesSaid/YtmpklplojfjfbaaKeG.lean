/- A ring of keys in memory. Nothing of the program stands in it but its tables, so there is no condition. -/
import Derived.Test.YtmpklplojfjfbaaKeM
import Derived.Test.YtmpklplojfjfbaaKeN
namespace Go.Proofs.Ytmpklplojfjfbaa
open Go.RowKit Go.Lib
/-- What changes lies in F alone, or is new. -/
structure Chg (F : Nat → Prop) (w w' : World) : Prop where
  os : w'.os = w.os
  tape : w'.tape = w.tape
  output : w'.output = w.output
  size : w.heap.size ≤ w'.heap.size
  block : ∀ k, k < w.heap.size → ¬ F k → w'.heap[k]? = w.heap[k]?
/-- With what is new. -/
def more (F : Nat → Prop) (w w' : World) : Nat → Prop := fun k => F k ∨ (w.heap.size ≤ k ∧ k < w'.heap.size)
theorem Chg.of_below {F : Nat → Prop} {w w' : World} (h : Below w.heap.size w w') : Chg F w w' := ⟨h.os, h.tape, h.output, h.size, fun k hk _ => h.block k hk⟩
theorem Chg.of_grown {F : Nat → Prop} {w w' : World} {g : Nat} (h : w.grownBy w' (some g)) (hg : F g) : Chg F w w' := ⟨h.os, h.tape, h.output, h.size, fun k hk hf => h.block k hk (by intro e; injection e with e; exact hf (e ▸ hg))⟩
theorem Chg.trans {F : Nat → Prop} {w w1 w2 : World} (h : Chg F w w1) (h2 : Chg (more F w w1) w1 w2) : Chg F w w2 :=
  ⟨h2.os.trans h.os, h2.tape.trans h.tape, h2.output.trans h.output, Nat.le_trans h.size h2.size, fun k hk hf => (h2.block k (Nat.lt_of_lt_of_le hk h.size) (by rintro (e | e); exact hf e; omega)).trans (h.block k hk hf)⟩
theorem Chg.trans0 {F : Nat → Prop} {w w1 w2 : World} (h : Chg F w w1) (h2 : Chg F w1 w2) : Chg F w w2 :=
  ⟨h2.os.trans h.os, h2.tape.trans h.tape, h2.output.trans h.output, Nat.le_trans h.size h2.size, fun k hk hf => (h2.block k (Nat.lt_of_lt_of_le hk h.size) hf).trans (h.block k hk hf)⟩
theorem Chg.refl (F : Nat → Prop) (w : World) : Chg F w w := ⟨rfl, rfl, rfl, Nat.le_refl _, fun _ _ _ => rfl⟩
theorem Chg.below {F : Nat → Prop} {w w' : World} {B : Nat} (h : Chg F w w') (hF : ∀ k, F k → B ≤ k) (hB : B ≤ w.heap.size) : Below B w w' :=
  ⟨h.os, h.tape, h.output, h.size, fun k hk => h.block k (by omega) (fun hf => by have := hF k hf; omega)⟩
theorem Chg.wide {F G : Nat → Prop} {w w' : World} (h : Chg F w w') (hF : ∀ k, F k → k < w.heap.size → G k) : Chg G w w' :=
  ⟨h.os, h.tape, h.output, h.size, fun k hk hg => h.block k hk (fun hf => hg (hF k hf hk))⟩
theorem more_ge {F : Nat → Prop} {w w' : World} {B : Nat} (hF : ∀ k, F k → B ≤ k) (hB : B ≤ w.heap.size) : ∀ k, more F w w' k → B ≤ k := by
  rintro k (h | h)
  · exact hF k h
  · omega
def ringC (s : D8) (h : Nat) (pt v : Value) (mb : Nat) : Array Value := #[.int .u8 (s.x0 : Int), .int .u8 (s.x1 : Int), .int .u8 (s.x2 : Int), .int .u8 (s.x3 : Int), .int .u8 (s.x4 : Int), .int .u8 (s.x5 : Int), .int .u8 (s.x6 : Int), .int .u8 (s.x7 : Int), .int .i64 (h : Int), pt, v, .map (some mb)]
/-- A ledger, and the map of its places. -/
structure LedAt (w : World) (B : Nat) (F : Nat → Prop) (br mb : Nat) (s : D8) (h : Nat) (pt : Value) (L : List D8) : Prop where
  cells : ∃ A c, w.heap[br]? = some (.cells (ringC s h pt (.slice A L.length c) mb) 62 (0, 0)) ∧ w.ownsRow B 29 8 (.slice A L.length c) L.length (flatD L) ∧ (∀ g, (Value.slice A L.length c).ownBlock = some g → F g)
  map : PlacesD w mb L
  nodup : L.Nodup
  ok : ∀ d ∈ L, d.ok
  fb : F br
  fm : F mb
  fl : ∀ k, F k → B ≤ k ∧ k < w.heap.size
theorem own_same {w w' : World} {base n sz : Nat} {e : TypeId} {v : Value} {xs : List Value} (h : w.ownsRow base e sz v n xs) (hk : ∀ g, v.ownBlock = some g → w'.heap[g]? = w.heap[g]?) : w'.ownsRow base e sz v n xs := own_keep h hk
section
variable {w w' : World} {B : Nat} {F : Nat → Prop} {br mb : Nat} {s : D8} {h : Nat} {pt : Value} {L : List D8}
theorem LedAt.kept (l : LedAt w B F br mb s h pt L) (hs : w.heap.size ≤ w'.heap.size) (hk : ∀ k, F k → w'.heap[k]? = w.heap[k]?) : LedAt w' B F br mb s h pt L := by
  obtain ⟨⟨A, c, h1, h2, h3⟩, hm, hn, ho, hb, hm2, hl⟩ := l
  exact ⟨⟨A, c, (hk _ hb).trans h1, own_same h2 (fun g hg => hk g (h3 g hg)), h3⟩, hm.same (hk _ hm2), hn, ho, hb, hm2, fun k hf => ⟨(hl k hf).1, Nat.lt_of_lt_of_le (hl k hf).2 hs⟩⟩
theorem LedAt.below (l : LedAt w B F br mb s h pt L) (hb : Below w.heap.size w w') : LedAt w' B F br mb s h pt L := l.kept hb.size (fun k hf => hb.block k (l.fl k hf).2)
theorem LedAt.br_lt (l : LedAt w B F br mb s h pt L) : br < w.heap.size := (l.fl _ l.fb).2
theorem LedAt.wide (l : LedAt w B F br mb s h pt L) {G : Nat → Prop} (hG : ∀ k, F k → G k) (hl : ∀ k, G k → B ≤ k ∧ k < w.heap.size) : LedAt w B G br mb s h pt L := by
  obtain ⟨⟨A, c, h1, h2, h3⟩, hm, hn, ho, hb, hm2, _⟩ := l
  exact ⟨⟨A, c, h1, h2, fun g hg => hG g (h3 g hg)⟩, hm, hn, ho, hG _ hb, hG _ hm2, hl⟩
end
/-- A ring: its ledger, and the tree of its keys. -/
structure RingAt (w : World) (B : Nat) (F : Nat → Prop) (T0 T1 br : Nat) (r : RingM) : Prop where
  led : ∃ mb bt, LedAt w B F br mb r.secret r.h (.pointer (some ⟨bt, 0, none⟩)) r.led ∧ TreeAt w T0 T1 bt r.h (keysD r.secret r.h)
  apart : ∀ k, F k → ¬ (T0 ≤ k ∧ k < T1)
  b0 : B ≤ T0
  b1 : T1 ≤ w.heap.size
  ok : r.ok
/-- All that a ring holds. -/
def foot (F : Nat → Prop) (T0 T1 : Nat) : Nat → Prop := fun k => F k ∨ (T0 ≤ k ∧ k < T1)
section
variable {w w' : World} {B : Nat} {F : Nat → Prop} {T0 T1 br : Nat} {r : RingM}
theorem RingAt.kept (a : RingAt w B F T0 T1 br r) (hs : w.heap.size ≤ w'.heap.size) (hk : ∀ k, foot F T0 T1 k → w'.heap[k]? = w.heap[k]?) : RingAt w' B F T0 T1 br r := by
  obtain ⟨⟨mb, bt, h1, h2⟩, ha, h0, h3, ho⟩ := a
  exact ⟨⟨mb, bt, h1.kept hs (fun k hf => hk k (.inl hf)), h2.kept (fun k h4 h5 => hk k (.inr ⟨h4, h5⟩)) hs⟩, ha, h0, Nat.le_trans h3 hs, ho⟩
theorem RingAt.foot_lt (a : RingAt w B F T0 T1 br r) : ∀ k, foot F T0 T1 k → B ≤ k ∧ k < w.heap.size := by
  obtain ⟨⟨mb, bt, h1, h2⟩, ha, h0, h3, ho⟩ := a
  rintro k (h | h)
  · exact h1.fl k h
  · omega
theorem RingAt.below (a : RingAt w B F T0 T1 br r) (hb : Below w.heap.size w w') : RingAt w' B F T0 T1 br r := a.kept hb.size (fun k hf => hb.block k (a.foot_lt k hf).2)
theorem RingAt.br_lt (a : RingAt w B F T0 T1 br r) : br < w.heap.size := by obtain ⟨⟨mb, bt, h1, h2⟩, _⟩ := a; exact h1.br_lt
/-- What another ring's doing leaves. -/
theorem RingAt.other (a : RingAt w B F T0 T1 br r) {G : Nat → Prop} (hc : Chg G w w') (hd : ∀ k, G k → ¬ foot F T0 T1 k) : RingAt w' B F T0 T1 br r :=
  a.kept hc.size (fun k hf => hc.block k (a.foot_lt k hf).2 (fun hg => hd k hg hf))
end
end Go.Proofs.Ytmpklplojfjfbaa
