/- The hash's rounds: the plain words, and the walks of RotateLeft64, left, stir, Stir. Condition: none. The hash's rounds in the reference: the walk of Stir. Condition: none. A number taken in by the hash: the walks of take, In, begin, Begin. Condition: none. The hash of bytes, plainly: states that take in eights. No condition. -/
import Derived.Test.YthhiookcknnmdaaGreatWords
import Derived.Test.YthhiookcknnmdaaGreatProg
import Derived.Laws.BitsAll
import Derived.WalkLawsBesides
import Derived.RegionTactic
import Derived.Lib.SmallJoins
import Derived.Test.YthhiookcknnmdaaGreatDig
import Derived.Test.YthhiookcknnmdaaGreatJoinX
import Derived.OpenShut
namespace Go.Proofs.YthhiookcknnmdaaGreat
open Go.RowKit Go.Lib
def rot32 (x : Int) : Int := bits .or .u64 (IntKind.u64.wrap (x * 4294967296)) (x / 4294967296)
theorem rot32_any (x : Int) (w : World) : Calls Tryz.prog 179 #[.int .u64 x, .int .i64 32] w fun e w' => e = .returned (.int .u64 (rot32 x)) ∧ w = w' := by
 have h : bits .and .u64 32 63 = 32 := by decide
 go_enter Tryz.func179, Tryz.ntmps179
 go_wp2
 go_ret
 exact ⟨rfl, rfl⟩
theorem left32_any (x : Int) (w : World) : Calls Tryz.prog 178 #[.int .u64 x, .int .u64 32] w fun e w' => e = .returned (.int .u64 (rot32 x)) ∧ w = w' := by
 go_enter Tryz.func178, Tryz.ntmps178
 go_wp2
 go_ret
 exact ⟨rfl, rfl⟩
def rot24 (x : Int) : Int := bits .or .u64 (IntKind.u64.wrap (x * 16777216)) (x / 1099511627776)
theorem rot24_any (x : Int) (w : World) : Calls Tryz.prog 179 #[.int .u64 x, .int .i64 24] w fun e w' => e = .returned (.int .u64 (rot24 x)) ∧ w = w' := by
 have h : bits .and .u64 24 63 = 24 := by decide
 go_enter Tryz.func179, Tryz.ntmps179
 go_wp2
 go_ret
 exact ⟨rfl, rfl⟩
theorem left24_any (x : Int) (w : World) : Calls Tryz.prog 178 #[.int .u64 x, .int .u64 24] w fun e w' => e = .returned (.int .u64 (rot24 x)) ∧ w = w' := by
 go_enter Tryz.func178, Tryz.ntmps178
 go_wp2
 go_ret
 exact ⟨rfl, rfl⟩
def rot16 (x : Int) : Int := bits .or .u64 (IntKind.u64.wrap (x * 65536)) (x / 281474976710656)
theorem rot16_any (x : Int) (w : World) : Calls Tryz.prog 179 #[.int .u64 x, .int .i64 16] w fun e w' => e = .returned (.int .u64 (rot16 x)) ∧ w = w' := by
 have h : bits .and .u64 16 63 = 16 := by decide
 go_enter Tryz.func179, Tryz.ntmps179
 go_wp2
 go_ret
 exact ⟨rfl, rfl⟩
theorem left16_any (x : Int) (w : World) : Calls Tryz.prog 178 #[.int .u64 x, .int .u64 16] w fun e w' => e = .returned (.int .u64 (rot16 x)) ∧ w = w' := by
 go_enter Tryz.func178, Tryz.ntmps178
 go_wp2
 go_ret
 exact ⟨rfl, rfl⟩
def rot63 (x : Int) : Int := bits .or .u64 (IntKind.u64.wrap (x * 9223372036854775808)) (x / 2)
theorem rot63_any (x : Int) (w : World) : Calls Tryz.prog 179 #[.int .u64 x, .int .i64 63] w fun e w' => e = .returned (.int .u64 (rot63 x)) ∧ w = w' := by
 have h : bits .and .u64 63 63 = 63 := by decide
 go_enter Tryz.func179, Tryz.ntmps179
 go_wp2
 go_ret
 exact ⟨rfl, rfl⟩
theorem left63_any (x : Int) (w : World) : Calls Tryz.prog 178 #[.int .u64 x, .int .u64 63] w fun e w' => e = .returned (.int .u64 (rot63 x)) ∧ w = w' := by
 go_enter Tryz.func178, Tryz.ntmps178
 go_wp2
 go_ret
 exact ⟨rfl, rfl⟩
structure Hs where
 a : Int
 b : Int
 c : Int
 d : Int
def Hs.a1 (s : Hs) (i : Int) : Int := bits .xor .u64 (IntKind.u64.wrap (s.a + s.b)) i
def Hs.d1 (s : Hs) (i : Int) : Int := rot32 (bits .xor .u64 s.d (s.a1 i))
def Hs.c1 (s : Hs) (i : Int) : Int := IntKind.u64.wrap (s.c + s.d1 i)
def Hs.b1 (s : Hs) (i : Int) : Int := rot24 (bits .xor .u64 s.b (s.c1 i))
def Hs.a2 (s : Hs) (i : Int) : Int := IntKind.u64.wrap (s.a1 i + s.b1 i)
def Hs.d2 (s : Hs) (i : Int) : Int := rot16 (bits .xor .u64 (s.d1 i) (s.a2 i))
def Hs.c2 (s : Hs) (i : Int) : Int := IntKind.u64.wrap (s.c1 i + s.d2 i)
def Hs.b2 (s : Hs) (i : Int) : Int := rot63 (bits .xor .u64 (s.b1 i) (s.c2 i))
def Hs.round (s : Hs) (i : Int) : Hs := ⟨s.a2 i, s.b2 i, s.c2 i, s.d2 i⟩
def Hs.rounds (s : Hs) : Nat → Hs
 | 0 => s
 | k + 1 => (s.rounds k).round ((k : Int) + 1)
def Hs.stir (s : Hs) : Hs := s.rounds 6
theorem h_at {w : World} {x : Obj} {k : Nat} (hk : k = w.heap.size) : (w.alloc x).heap[k]? = some x := by subst hk; exact heap_alloc_new w x
theorem h_one (w : World) (a : Obj) : Below w.heap.size w (w.alloc a) := (Below.refl _ _).alloc (Nat.le_refl _) _
theorem h_two (w : World) (a b : Obj) : Below w.heap.size w ((w.alloc a).alloc b) := ((Below.refl _ _).alloc (Nat.le_refl _) _).alloc (by simp) _
def StAt (w : World) (g : Nat) (s : Hs) : Prop := w.heap[g]? = some (.cells #[.int .u64 s.a, .int .u64 s.b, .int .u64 s.c, .int .u64 s.d] 172 (0, 0))
theorem StAt.set {w : World} {g : Nat} {s : Hs} (h : StAt w g s) (a b c d : Int) :
  StAt ((((w.setCell ⟨g, 0, none⟩ (.int .u64 a)).setCell ⟨g, 1, none⟩ (.int .u64 b)).setCell ⟨g, 2, none⟩ (.int .u64 c)).setCell ⟨g, 3, none⟩ (.int .u64 d)) g ⟨a, b, c, d⟩ := by
 have h1 := Joins.block_setCell (i := 0) h (.int .u64 a)
 have h2 := Joins.block_setCell (i := 1) h1 (.int .u64 b)
 have h3 := Joins.block_setCell (i := 2) h2 (.int .u64 c)
 have h4 := Joins.block_setCell (i := 3) h3 (.int .u64 d)
 simpa [StAt] using h4
theorem grown_set1 (w : World) (g i : Nat) (v : Value) : w.grownBy (w.setCell ⟨g, i, none⟩ v) (some g) :=
 ⟨rfl, rfl, rfl, by simp [World.setCell], fun k _ hne => Below.heap_setCell w ⟨g, i, none⟩ v k (fun e => hne (by rw [e]))⟩
theorem grown_set4 (w : World) (g : Nat) (a b c d : Value) : w.grownBy ((((w.setCell ⟨g, 0, none⟩ a).setCell ⟨g, 1, none⟩ b).setCell ⟨g, 2, none⟩ c).setCell ⟨g, 3, none⟩ d) (some g) :=
 (((grown_set1 w g 0 a).trans (grown_set1 _ g 1 b)).trans (grown_set1 _ g 2 c)).trans (grown_set1 _ g 3 d)
theorem hgrown_drew {w w' : World} {r : Option Nat} (h : w.grownBy w' r) : w.grownBy w'.drew r := ⟨h.os, h.tape, h.output, h.size, h.block⟩
theorem hgrown_drew0 {w w' : World} {r : Option Nat} (h : w.drew.grownBy w' r) : w.grownBy w' r := ⟨h.os, h.tape, h.output, h.size, h.block⟩
set_option maxRecDepth 100000 in
set_option maxHeartbeats 2000000 in
theorem stir_any (g : Nat) (s : Hs) (w : World) (h : StAt w g s) :
  Calls Tryz.prog 176 #[.pointer (some ⟨g, 0, none⟩)] w fun e w' => e = .returned (.tuple #[]) ∧ StAt w' g s.stir ∧ w.grownBy w' (some g) := by
 have z0 := block_cell h 0; have z1 := block_cell h 1; have z2 := block_cell h 2; have z3 := block_cell h 3
 have zf := block_free h
 simp at z0 z1 z2 z3
 have H := Lib.hid h
 clear h
 go_enter Tryz.func176, Tryz.ntmps176
 go_wp2
 go_region
 go_wp2
 go_loop [2, 3, 4, 5, 23] (fun a b c d i => ∃ k : Nat, k ≤ 6 ∧ i = .int .u64 k ∧ a = .int .u64 (s.rounds k).a ∧ b = .int .u64 (s.rounds k).b ∧ c = .int .u64 (s.rounds k).c ∧ d = .int .u64 (s.rounds k).d) (fun _ _ _ _ i => 6 - (intOf i).toNat)
 case atStart => exact ⟨0, by omega, rfl, rfl, rfl, rfl, rfl⟩
 case round =>
  obtain ⟨k, hk, rfl, rfl, rfl, rfl, rfl⟩ := hrel
  by_cases hlt : k < 6
  ·have hd1 : decide ((k : Int) < 6) = true := decide_eq_true (by omega)
   have hw : IntKind.u64.wrap ((k : Int) + 1) = (k : Int) + 1 := by rw [IntKind.wrap_u64]; omega
   have Hr : Hid (s.rounds (k + 1) = (s.rounds k).round ((k : Int) + 1)) := Lib.hid rfl
   generalize s.rounds k = q at *
   go_wp2_with (first | (go_at_call 179; with_reducible refine (rot32_any _ _).mono ?_; rintro e w' ⟨rfl, rfl⟩) | (go_at_call 179; with_reducible refine (rot24_any _ _).mono ?_; rintro e w' ⟨rfl, rfl⟩) | (go_at_call 179; with_reducible refine (rot16_any _ _).mono ?_; rintro e w' ⟨rfl, rfl⟩) | (go_at_call 179; with_reducible refine (rot63_any _ _).mono ?_; rintro e w' ⟨rfl, rfl⟩))
   go_round
   case rel => exact ⟨k + 1, by omega, by go_num, by rw [Hr.out]; rfl, by rw [Hr.out]; rfl, by rw [Hr.out]; rfl, by rw [Hr.out]; rfl⟩
   case measure => simp [intOf]; omega
  ·obtain rfl : k = 6 := by omega
   clear hlt hk
   go_wp2
   go_end0
   exact ⟨rfl, StAt.set H.out _ _ _ _, hgrown_drew (grown_set4 w g _ _ _ _)⟩
end Go.Proofs.YthhiookcknnmdaaGreat
namespace Go.Proofs.YthhiookcknnmdaaGreat
open Go.RowKit Go.Lib
set_option maxRecDepth 100000 in
set_option maxHeartbeats 2000000 in
theorem stirr_any (s : Hs) (w : World) :
  Calls Tryz.prog 175 #[.agg #[.int .u64 s.a, .int .u64 s.b, .int .u64 s.c, .int .u64 s.d]] w fun e w' => e = .returned (.agg #[.int .u64 s.stir.a, .int .u64 s.stir.b, .int .u64 s.stir.c, .int .u64 s.stir.d]) ∧ Below w.heap.size w w' := by
 have HR : Hid (((w.alloc (.cells #[.int .u64 s.a, .int .u64 s.b, .int .u64 s.c, .int .u64 s.d] 200)).alloc (.cells #[.int .u64 0, .int .u64 0, .int .u64 0, .int .u64 0] 200)).heap[w.heap.size + 1]? = some (.cells #[.int .u64 0, .int .u64 0, .int .u64 0, .int .u64 0] 200 (0, 0))) := h_at (by simp)
 have HT : Hid (((w.alloc (.cells #[.int .u64 s.a, .int .u64 s.b, .int .u64 s.c, .int .u64 s.d] 200)).alloc (.cells #[.int .u64 0, .int .u64 0, .int .u64 0, .int .u64 0] 200)).heap[w.heap.size]? = some (.cells #[.int .u64 s.a, .int .u64 s.b, .int .u64 s.c, .int .u64 s.d] 200 (0, 0))) := block_alloc (heap_alloc_new w _) _
 have Hw := Lib.hid (h_two w (.cells #[.int .u64 s.a, .int .u64 s.b, .int .u64 s.c, .int .u64 s.d] 200) (.cells #[.int .u64 0, .int .u64 0, .int .u64 0, .int .u64 0] 200))
 go_enter Tryz.func175, Tryz.ntmps175
 go_wp2
 go_loopw [3] (fun i wr => ∃ k : Nat, k ≤ 6 ∧ i = .int .u64 ((k : Int) + 1) ∧ wr.heap[w.heap.size]? = some (.cells #[.int .u64 (s.rounds k).a, .int .u64 (s.rounds k).b, .int .u64 (s.rounds k).c, .int .u64 (s.rounds k).d] 200 (0, 0)) ∧ wr.heap[w.heap.size + 1]? = some (.cells #[.int .u64 0, .int .u64 0, .int .u64 0, .int .u64 0] 200 (0, 0)) ∧ Below w.heap.size w wr) (fun i _ => 7 - (intOf i).toNat)
 case atStart => exact ⟨0, by omega, rfl, HT.out, HR.out, Hw.out⟩
 case round =>
  obtain ⟨k, hk, rfl, hT, hR, hb⟩ := hrel
  have HTr := Lib.hid hT; have HRr := Lib.hid hR; have Hb := Lib.hid hb
  have z0 := block_cell hT 0; have z1 := block_cell hT 1; have z2 := block_cell hT 2; have z3 := block_cell hT 3
  have zf := block_free hT
  simp at z0 z1 z2 z3
  have hl := block_lt hR
  clear hT hR hb
  by_cases hlt : k < 6
  ·have hd1 : decide ((k : Int) + 1 ≤ 6) = true := decide_eq_true (by omega)
   have hw : IntKind.u64.wrap ((k : Int) + 1 + 1) = (k : Int) + 1 + 1 := by rw [IntKind.wrap_u64]; omega
   have Hr : Hid (s.rounds (k + 1) = (s.rounds k).round ((k : Int) + 1)) := Lib.hid rfl
   generalize s.rounds k = q at *
   go_wp2_with fail
   generalize hx : (bits BinOp.xor IntKind.u64 (IntKind.u64.wrap (q.a + q.b)) ((k : Int) + 1)) = x1 at *
   have X1 : Hid (q.a1 ((k : Int) + 1) = x1) := by show bits BinOp.xor IntKind.u64 (IntKind.u64.wrap (q.a + q.b)) ((k : Int) + 1) = x1; exact hx
   clear hx
   generalize hw : wr.setCell ⟨w.heap.size, 0, none⟩ (.int .u64 x1) = w1 at *
   have hT : w1.heap[w.heap.size]? = some (.cells #[.int .u64 x1, .int .u64 q.b, .int .u64 q.c, .int .u64 q.d] 200 (0, 0)) := by
    rw [← hw]; simpa using Joins.block_setCell (i := 0) HTr.out (.int .u64 x1)
   have hR : w1.heap[w.heap.size + 1]? = some (.cells #[.int .u64 0, .int .u64 0, .int .u64 0, .int .u64 0] 200 (0, 0)) := by
    rw [← hw, Below.heap_setCell _ _ _ _ (by show w.heap.size + 1 ≠ w.heap.size; omega)]; exact HRr.out
   have hb : Below w.heap.size w w1 := by rw [← hw]; exact Hb.out.setCell (Nat.le_refl _) _
   clear hw z0 z1 z2 z3 zf hl
   replace HTr := Lib.hid hT; replace HRr := Lib.hid hR; replace Hb := Lib.hid hb
   have z0 := block_cell hT 0; have z1 := block_cell hT 1; have z2 := block_cell hT 2; have z3 := block_cell hT 3
   have zf := block_free hT
   simp at z0 z1 z2 z3
   have hl := block_lt hR
   clear hT hR hb
   refine (left32_any _ _).mono ?_
   rintro e w' ⟨rfl, rfl⟩
   generalize hx : (rot32 (bits BinOp.xor IntKind.u64 q.d x1)) = x2 at *
   have X2 : Hid (q.d1 ((k : Int) + 1) = x2) := by show rot32 (bits .xor .u64 q.d (q.a1 _)) = x2; rw [X1.out]; exact hx
   clear hx
   go_wp2_with fail
   generalize hx : (IntKind.u64.wrap (q.c + x2)) = x3 at *
   have X3 : Hid (q.c1 ((k : Int) + 1) = x3) := by show IntKind.u64.wrap (q.c + q.d1 _) = x3; rw [X2.out]; exact hx
   clear hx
   generalize hw : (w1.setCell ⟨w.heap.size, 3, none⟩ (.int .u64 x2)).setCell ⟨w.heap.size, 2, none⟩ (.int .u64 x3) = w2 at *
   have hT : w2.heap[w.heap.size]? = some (.cells #[.int .u64 x1, .int .u64 q.b, .int .u64 x3, .int .u64 x2] 200 (0, 0)) := by
    rw [← hw]; simpa using Joins.block_setCell (i := 2) (Joins.block_setCell (i := 3) HTr.out (.int .u64 x2)) (.int .u64 x3)
   have hR : w2.heap[w.heap.size + 1]? = some (.cells #[.int .u64 0, .int .u64 0, .int .u64 0, .int .u64 0] 200 (0, 0)) := by
    rw [← hw, Below.heap_setCell _ _ _ _ (by show w.heap.size + 1 ≠ w.heap.size; omega), Below.heap_setCell _ _ _ _ (by show w.heap.size + 1 ≠ w.heap.size; omega)]; exact HRr.out
   have hb : Below w.heap.size w w2 := by rw [← hw]; exact (Hb.out.setCell (Nat.le_refl _) _).setCell (Nat.le_refl _) _
   clear hw z0 z1 z2 z3 zf hl
   replace HTr := Lib.hid hT; replace HRr := Lib.hid hR; replace Hb := Lib.hid hb
   have z0 := block_cell hT 0; have z1 := block_cell hT 1; have z2 := block_cell hT 2; have z3 := block_cell hT 3
   have zf := block_free hT
   simp at z0 z1 z2 z3
   have hl := block_lt hR
   clear hT hR hb
   refine (left24_any _ _).mono ?_
   rintro e w' ⟨rfl, rfl⟩
   generalize hx : (rot24 (bits BinOp.xor IntKind.u64 q.b x3)) = x4 at *
   have X4 : Hid (q.b1 ((k : Int) + 1) = x4) := by show rot24 (bits .xor .u64 q.b (q.c1 _)) = x4; rw [X3.out]; exact hx
   clear hx
   go_wp2_with fail
   generalize hx : (IntKind.u64.wrap (x1 + x4)) = x5 at *
   have X5 : Hid (q.a2 ((k : Int) + 1) = x5) := by show IntKind.u64.wrap (q.a1 _ + q.b1 _) = x5; rw [X1.out, X4.out]; exact hx
   clear hx
   generalize hw : (w2.setCell ⟨w.heap.size, 1, none⟩ (.int .u64 x4)).setCell ⟨w.heap.size, 0, none⟩ (.int .u64 x5) = w3 at *
   have hT : w3.heap[w.heap.size]? = some (.cells #[.int .u64 x5, .int .u64 x4, .int .u64 x3, .int .u64 x2] 200 (0, 0)) := by
    rw [← hw]; simpa using Joins.block_setCell (i := 0) (Joins.block_setCell (i := 1) HTr.out (.int .u64 x4)) (.int .u64 x5)
   have hR : w3.heap[w.heap.size + 1]? = some (.cells #[.int .u64 0, .int .u64 0, .int .u64 0, .int .u64 0] 200 (0, 0)) := by
    rw [← hw, Below.heap_setCell _ _ _ _ (by show w.heap.size + 1 ≠ w.heap.size; omega), Below.heap_setCell _ _ _ _ (by show w.heap.size + 1 ≠ w.heap.size; omega)]; exact HRr.out
   have hb : Below w.heap.size w w3 := by rw [← hw]; exact (Hb.out.setCell (Nat.le_refl _) _).setCell (Nat.le_refl _) _
   clear hw z0 z1 z2 z3 zf hl
   replace HTr := Lib.hid hT; replace HRr := Lib.hid hR; replace Hb := Lib.hid hb
   have z0 := block_cell hT 0; have z1 := block_cell hT 1; have z2 := block_cell hT 2; have z3 := block_cell hT 3
   have zf := block_free hT
   simp at z0 z1 z2 z3
   have hl := block_lt hR
   clear hT hR hb
   refine (left16_any _ _).mono ?_
   rintro e w' ⟨rfl, rfl⟩
   generalize hx : (rot16 (bits BinOp.xor IntKind.u64 x2 x5)) = x6 at *
   have X6 : Hid (q.d2 ((k : Int) + 1) = x6) := by show rot16 (bits .xor .u64 (q.d1 _) (q.a2 _)) = x6; rw [X2.out, X5.out]; exact hx
   clear hx
   go_wp2_with fail
   generalize hx : (IntKind.u64.wrap (x3 + x6)) = x7 at *
   have X7 : Hid (q.c2 ((k : Int) + 1) = x7) := by show IntKind.u64.wrap (q.c1 _ + q.d2 _) = x7; rw [X3.out, X6.out]; exact hx
   clear hx
   generalize hw : (w3.setCell ⟨w.heap.size, 3, none⟩ (.int .u64 x6)).setCell ⟨w.heap.size, 2, none⟩ (.int .u64 x7) = w4 at *
   have hT : w4.heap[w.heap.size]? = some (.cells #[.int .u64 x5, .int .u64 x4, .int .u64 x7, .int .u64 x6] 200 (0, 0)) := by
    rw [← hw]; simpa using Joins.block_setCell (i := 2) (Joins.block_setCell (i := 3) HTr.out (.int .u64 x6)) (.int .u64 x7)
   have hR : w4.heap[w.heap.size + 1]? = some (.cells #[.int .u64 0, .int .u64 0, .int .u64 0, .int .u64 0] 200 (0, 0)) := by
    rw [← hw, Below.heap_setCell _ _ _ _ (by show w.heap.size + 1 ≠ w.heap.size; omega), Below.heap_setCell _ _ _ _ (by show w.heap.size + 1 ≠ w.heap.size; omega)]; exact HRr.out
   have hb : Below w.heap.size w w4 := by rw [← hw]; exact (Hb.out.setCell (Nat.le_refl _) _).setCell (Nat.le_refl _) _
   clear hw z0 z1 z2 z3 zf hl
   replace HTr := Lib.hid hT; replace HRr := Lib.hid hR; replace Hb := Lib.hid hb
   have z0 := block_cell hT 0; have z1 := block_cell hT 1; have z2 := block_cell hT 2; have z3 := block_cell hT 3
   have zf := block_free hT
   simp at z0 z1 z2 z3
   have hl := block_lt hR
   clear hT hR hb
   refine (left63_any _ _).mono ?_
   rintro e w' ⟨rfl, rfl⟩
   generalize hx : (rot63 (bits BinOp.xor IntKind.u64 x4 x7)) = x8 at *
   have X8 : Hid (q.b2 ((k : Int) + 1) = x8) := by show rot63 (bits .xor .u64 (q.b1 _) (q.c2 _)) = x8; rw [X4.out, X7.out]; exact hx
   clear hx
   go_wp2
   go_roundw
   case rel =>
    refine ⟨k + 1, by omega, by go_num, ?_, ?_, Hb.out.setCell (Nat.le_refl _) _⟩
    ·rw [Hr.out]
     show _ = some (Obj.cells #[.int .u64 (q.a2 ((k : Int) + 1)), .int .u64 (q.b2 ((k : Int) + 1)), .int .u64 (q.c2 ((k : Int) + 1)), .int .u64 (q.d2 ((k : Int) + 1))] 200 (0, 0))
     rw [X5.out, X6.out, X7.out, X8.out]
     simpa using Joins.block_setCell (i := 1) HTr.out (.int .u64 x8)
    ·rw [Below.heap_setCell _ _ _ _ (by show w.heap.size + 1 ≠ w.heap.size; omega)]; exact HRr.out
   case measure => simp [intOf]; omega
  ·obtain rfl : k = 6 := by omega
   have hd1 : decide (((6 : Nat) : Int) + 1 ≤ 6) = false := by decide
   clear hlt hk
   have r0 := block_cell HRr.out 0; have r1 := block_cell HRr.out 1; have r2 := block_cell HRr.out 2; have r3 := block_cell HRr.out 3
   have rf := block_free HRr.out
   simp at r0 r1 r2 r3
   go_wp2
   refine bodyPost_ret (v := .agg #[.int .u64 s.stir.a, .int .u64 s.stir.b, .int .u64 s.stir.c, .int .u64 s.stir.d]) (by simp [results, Tryz.results175, go_sem, r0, r1, r2, r3, Hs.stir]) rfl ⟨rfl, ?_⟩
   repeat refine Below.setCell ?_ (by show w.heap.size ≤ w.heap.size + 1; omega) _
   exact Hb.out
end Go.Proofs.YthhiookcknnmdaaGreat
namespace Go.Proofs.YthhiookcknnmdaaGreat
open Go.RowKit Go.Lib
def Hs.xorA (s : Hs) (n : Int) : Hs := ⟨bits .xor .u64 s.a n, s.b, s.c, s.d⟩
def Hs.take (s : Hs) (n : Int) : Hs := (s.xorA n).stir
def Hs.begin (k : Int) : Hs := ⟨2611923443488327891, 1376283091369227076, 11820040416388919760, k⟩
set_option maxRecDepth 100000 in
set_option maxHeartbeats 1000000 in
theorem take_any (g : Nat) (s : Hs) (n : Int) (w : World) (h : StAt w g s) :
  Calls Tryz.prog 171 #[.pointer (some ⟨g, 0, none⟩), .int .u64 n] w fun e w' => e = .returned (.tuple #[]) ∧ StAt w' g (s.take n) ∧ w.grownBy w' (some g) := by
 have z0 := block_cell h 0; have z1 := block_cell h 1; have z2 := block_cell h 2; have z3 := block_cell h 3
 have zf := block_free h
 simp at z0 z1 z2 z3
 have H : Hid (StAt (w.setCell ⟨g, 0, none⟩ (.int .u64 (bits .xor .u64 s.a n))).drew g (s.xorA n)) := Lib.hid (by
  have := Joins.block_setCell (i := 0) h (.int .u64 (bits .xor .u64 s.a n))
  have e : StAt (w.setCell ⟨g, 0, none⟩ (.int .u64 (bits .xor .u64 s.a n))) g (s.xorA n) := by simpa [StAt, Hs.xorA] using this
  exact e)
 have G := Lib.hid (hgrown_drew (grown_set1 w g 0 (.int .u64 (bits .xor .u64 s.a n))))
 clear h
 go_enter Tryz.func171, Tryz.ntmps171
 go_wp2
 go_region
 all_goals
  go_wp2_with fail
  refine (stir_any g (s.xorA n) _ H.out).mono ?_
  rintro e w' ⟨rfl, h1, h2⟩
  have H1 := Lib.hid h1
  have H2 := Lib.hid (G.out.trans h2)
  clear h1 h2
  go_wp2
  go_end0
  exact ⟨rfl, H1.out, H2.out⟩
set_option maxRecDepth 100000 in
set_option maxHeartbeats 1000000 in
theorem in_any (s : Hs) (n : Int) (w : World) :
  Calls Tryz.prog 170 #[.agg #[.int .u64 s.a, .int .u64 s.b, .int .u64 s.c, .int .u64 s.d], .int .u64 n] w fun e w' => e = .returned (.agg #[.int .u64 (s.take n).a, .int .u64 (s.take n).b, .int .u64 (s.take n).c, .int .u64 (s.take n).d]) ∧ Below w.heap.size w w' := by
 have HR : ∀ cs : Array Value, ((w.alloc (.cells cs 200)).alloc (.cells #[.int .u64 0, .int .u64 0, .int .u64 0, .int .u64 0] 200)).heap[w.heap.size + 1]? = some (.cells #[.int .u64 0, .int .u64 0, .int .u64 0, .int .u64 0] 200 (0, 0)) := fun cs => h_at (by simp)
 have HR' := Lib.hid HR
 clear HR
 go_enter Tryz.func170, Tryz.ntmps170
 go_wp2_with fail
 refine (stirr_any (s.xorA n) _).mono ?_
 rintro e w1 ⟨rfl, hb1⟩
 have T := block_below (HR'.out _) hb1 (by simp)
 have r0 := block_cell T 0; have r1 := block_cell T 1; have r2 := block_cell T 2; have r3 := block_cell T 3
 have rf := block_free T
 simp at r0 r1 r2 r3
 have Hb := Lib.hid ((h_two w _ _).trans (hb1.mono (by simp; omega)))
 clear T hb1
 go_wp2
 refine bodyPost_ret (v := .agg #[.int .u64 (s.take n).a, .int .u64 (s.take n).b, .int .u64 (s.take n).c, .int .u64 (s.take n).d]) (by simp [results, Tryz.results170, go_sem, r0, r1, r2, r3, Hs.take]) rfl ⟨rfl, ?_⟩
 repeat refine Below.setCell ?_ (by show w.heap.size ≤ w.heap.size + 1; omega) _
 exact Hb.out
set_option maxRecDepth 100000 in
theorem begin_any (k : Int) (w : World) :
  Calls Tryz.prog 125 #[.int .u64 k] w fun e w' => e = .returned (.agg #[.int .u64 (Hs.begin k).a, .int .u64 (Hs.begin k).b, .int .u64 (Hs.begin k).c, .int .u64 (Hs.begin k).d]) ∧ Below w.heap.size w w' := by
 go_enter Tryz.func125, Tryz.ntmps125
 go_wp2
 refine bodyPost_ret (v := .agg #[.int .u64 (Hs.begin k).a, .int .u64 (Hs.begin k).b, .int .u64 (Hs.begin k).c, .int .u64 (Hs.begin k).d]) (by simp [results, Tryz.results125, go_sem, Hs.begin]) rfl ⟨rfl, h_one w _⟩
set_option maxRecDepth 100000 in
theorem beginr_any (k : Int) (w : World) :
  Calls Tryz.prog 147 #[.int .u64 k] w fun e w' => e = .returned (.agg #[.int .u64 (Hs.begin k).a, .int .u64 (Hs.begin k).b, .int .u64 (Hs.begin k).c, .int .u64 (Hs.begin k).d]) ∧ Below w.heap.size w w' := by
 go_enter Tryz.func147, Tryz.ntmps147
 go_wp2
 refine bodyPost_ret (v := .agg #[.int .u64 (Hs.begin k).a, .int .u64 (Hs.begin k).b, .int .u64 (Hs.begin k).c, .int .u64 (Hs.begin k).d]) (by simp [results, Tryz.results147, go_sem, Hs.begin]) rfl ⟨rfl, h_one w _⟩
end Go.Proofs.YthhiookcknnmdaaGreat
namespace Go.Proofs.YthhiookcknnmdaaGreat
open Go.RowKit Go.Lib
def chunk (l : List Nat) (k : Nat) : D8 := ⟨l.getD (8 * k) 0, l.getD (8 * k + 1) 0, l.getD (8 * k + 2) 0, l.getD (8 * k + 3) 0, l.getD (8 * k + 4) 0, l.getD (8 * k + 5) 0, l.getD (8 * k + 6) 0, l.getD (8 * k + 7) 0⟩
def Hs.eat (s : Hs) (l : List Nat) : Nat → Hs
 | 0 => s
 | k + 1 => (s.eat l k).take ((chunk l k).num : Int)
def Hs.bytes (s : Hs) (l : List Nat) : Hs := (s.eat (l ++ [1]) (l.length / 8 + 1)).take (l.length : Int)
def Hs.mix (s : Hs) : Nat := (bits .xor .u64 s.a s.c).toNat
def Hs.out (s : Hs) : D8 := D8.of s.mix
def hashOf (l : List Nat) : D8 := ((Hs.begin 1).bytes l).out
def hashOne (d : D8) : D8 := ((Hs.begin 2).take (d.num : Int)).out
def hashTwo (a b : D8) : D8 := (((Hs.begin 3).take (a.num : Int)).take (b.num : Int)).out
def hashWord (d : D8) (l : List Nat) : D8 := (((Hs.begin 4).take (d.num : Int)).bytes l).out
theorem mix_int (s : Hs) : bits .xor .u64 s.a s.c = (s.mix : Int) := by
 have := wf_u64 (wf_bits .xor .u64 s.a s.c)
 unfold Hs.mix; omega
theorem mix_lt (s : Hs) : s.mix < 18446744073709551616 := by
 have := wf_u64 (wf_bits .xor .u64 s.a s.c)
 unfold Hs.mix; omega
theorem getD_lt {l : List Nat} (h : ∀ x ∈ l, x < 256) (k : Nat) : l.getD k 0 < 256 := by
 rw [List.getD_eq_getElem?_getD]
 rcases hk : l[k]? with _ | x
 ·simp
 ·simpa using h x (List.mem_of_getElem? hk)
theorem chunk_ok {l : List Nat} (h : ∀ x ∈ l, x < 256) (k : Nat) : (chunk l k).ok :=
 ⟨getD_lt h _, getD_lt h _, getD_lt h _, getD_lt h _, getD_lt h _, getD_lt h _, getD_lt h _, getD_lt h _⟩
theorem snoc_ok {l : List Nat} (h : ∀ x ∈ l, x < 256) : ∀ x ∈ l ++ [1], x < 256 := by
 intro x hx
 rcases List.mem_append.1 hx with h1 | h1
 ·exact h x h1
 ·simp at h1; omega
theorem getD_front (l m : List Nat) {k : Nat} (h : k < l.length) : (l ++ m).getD k 0 = l.getD k 0 := by
 rw [List.getD_eq_getElem?_getD, List.getD_eq_getElem?_getD, List.getElem?_append_left h]
theorem chunk_front (l m : List Nat) {k : Nat} (h : 8 * k + 8 ≤ l.length) : chunk (l ++ m) k = chunk l k := by
 unfold chunk
 rw [getD_front _ _ (by omega), getD_front _ _ (by omega), getD_front _ _ (by omega), getD_front _ _ (by omega), getD_front _ _ (by omega), getD_front _ _ (by omega), getD_front _ _ (by omega), getD_front _ _ (by omega)]
theorem eat_front (s : Hs) (l m : List Nat) : ∀ k, 8 * k ≤ l.length → s.eat (l ++ m) k = s.eat l k
 | 0, _ => rfl
 | k + 1, h => by
  show (s.eat (l ++ m) k).take _ = (s.eat l k).take _
  rw [eat_front s l m k (by omega), chunk_front l m (by omega)]
theorem getD_zeros (l : List Nat) (n k : Nat) : (l ++ List.replicate n 0).getD k 0 = l.getD k 0 := by
 rw [List.getD_eq_getElem?_getD, List.getD_eq_getElem?_getD]
 by_cases h : k < l.length
 ·rw [List.getElem?_append_left h]
 ·rw [List.getElem?_append_right (by omega), List.getElem?_replicate, List.getElem?_eq_none (by omega)]
  split <;> rfl
theorem chunk_zeros (l : List Nat) (n k : Nat) : chunk (l ++ List.replicate n 0) k = chunk l k := by
 unfold chunk; simp only [getD_zeros]
theorem eat_zeros (s : Hs) (l : List Nat) (n : Nat) : ∀ k, s.eat (l ++ List.replicate n 0) k = s.eat l k
 | 0 => rfl
 | k + 1 => by
  show (s.eat _ k).take _ = (s.eat l k).take _
  rw [eat_zeros s l n k, chunk_zeros]
def D8.cs (d : D8) : List Value := [.int .u8 d.x0, .int .u8 d.x1, .int .u8 d.x2, .int .u8 d.x3, .int .u8 d.x4, .int .u8 d.x5, .int .u8 d.x6, .int .u8 d.x7]
def D8.bytes (d : D8) : List Nat := [d.x0, d.x1, d.x2, d.x3, d.x4, d.x5, d.x6, d.x7]
theorem D8.bytes_lt {d : D8} (h : d.ok) : ∀ x ∈ d.bytes, x < 256 := by
 obtain ⟨h0, h1, h2, h3, h4, h5, h6, h7⟩ := h
 unfold D8.bytes
 intro x hx
 simp only [List.mem_cons, List.not_mem_nil, or_false] at hx
 rcases hx with rfl | rfl | rfl | rfl | rfl | rfl | rfl | rfl <;> assumption
theorem tail_cells0 (t : List Nat) (ht : t.length < 8) : ((t.map fun (x : Nat) => Value.int .u8 x) ++ (List.replicate 8 (Value.int .u8 0)).drop t.length).set t.length (.int .u8 1) = (chunk (t ++ [1]) 0).cs := by
 rcases t with _ | ⟨x0, _ | ⟨x1, _ | ⟨x2, _ | ⟨x3, _ | ⟨x4, _ | ⟨x5, _ | ⟨x6, _ | ⟨x7, t⟩⟩⟩⟩⟩⟩⟩⟩ <;> first | rfl | (simp at ht; omega)
theorem getD_drop (l : List Nat) (n k : Nat) : (l.drop n).getD k 0 = l.getD (n + k) 0 := by
 rw [List.getD_eq_getElem?_getD, List.getD_eq_getElem?_getD, List.getElem?_drop]
theorem chunk_drop (l : List Nat) (q : Nat) : chunk (l.drop (8 * q)) 0 = chunk l q := by
 unfold chunk
 simp only [getD_drop]
 rfl
theorem tail_cells (l : List Nat) : (((l.drop (8 * (l.length / 8))).map fun (x : Nat) => Value.int .u8 x) ++ (List.replicate 8 (Value.int .u8 0)).drop (l.drop (8 * (l.length / 8))).length).set (l.drop (8 * (l.length / 8))).length (.int .u8 1) = (chunk (l ++ [1]) (l.length / 8)).cs := by
 rw [tail_cells0 _ (by rw [List.length_drop]; omega), ← chunk_drop (l ++ [1]) (l.length / 8), List.drop_append_of_le_length (by omega)]
theorem set4 {w : World} {g : Nat} {T : TypeId} {c0 c1 c2 c3 : Value} (h : w.heap[g]? = some (.cells #[c0, c1, c2, c3] T (0, 0))) (v0 v1 v2 v3 : Value) :
  ((((w.setCell ⟨g, 0, none⟩ v0).setCell ⟨g, 1, none⟩ v1).setCell ⟨g, 2, none⟩ v2).setCell ⟨g, 3, none⟩ v3).heap[g]? = some (.cells #[v0, v1, v2, v3] T (0, 0)) := by
 have h1 := Joins.block_setCell (i := 0) h v0
 have h2 := Joins.block_setCell (i := 1) h1 v1
 have h3 := Joins.block_setCell (i := 2) h2 v2
 have h4 := Joins.block_setCell (i := 3) h3 v3
 simpa using h4
theorem free4 {w : World} {g : Nat} {T : TypeId} {c0 c1 c2 c3 : Value} (h : w.heap[g]? = some (.cells #[c0, c1, c2, c3] T (0, 0))) :
  (∀ j, w.frozen? ⟨g, j, none⟩ = false) ∧ w.cell? ⟨g, 0, none⟩ = some c0 ∧ w.cell? ⟨g, 1, none⟩ = some c1 ∧ w.cell? ⟨g, 2, none⟩ = some c2 ∧ w.cell? ⟨g, 3, none⟩ = some c3 :=
 ⟨block_free h, by simpa using block_cell h 0, by simpa using block_cell h 1, by simpa using block_cell h 2, by simpa using block_cell h 3⟩
theorem set8 {w : World} {g : Nat} {T : TypeId} {c0 c1 c2 c3 c4 c5 c6 c7 : Value} (h : w.heap[g]? = some (.cells #[c0, c1, c2, c3, c4, c5, c6, c7] T (0, 0))) (v0 v1 v2 v3 v4 v5 v6 v7 : Value) :
  ((((((((w.setCell ⟨g, 0, none⟩ v0).setCell ⟨g, 1, none⟩ v1).setCell ⟨g, 2, none⟩ v2).setCell ⟨g, 3, none⟩ v3).setCell ⟨g, 4, none⟩ v4).setCell ⟨g, 5, none⟩ v5).setCell ⟨g, 6, none⟩ v6).setCell ⟨g, 7, none⟩ v7).heap[g]? = some (.cells #[v0, v1, v2, v3, v4, v5, v6, v7] T (0, 0)) := by
 have h1 := Joins.block_setCell (i := 0) h v0
 have h2 := Joins.block_setCell (i := 1) h1 v1
 have h3 := Joins.block_setCell (i := 2) h2 v2
 have h4 := Joins.block_setCell (i := 3) h3 v3
 have h5 := Joins.block_setCell (i := 4) h4 v4
 have h6 := Joins.block_setCell (i := 5) h5 v5
 have h7 := Joins.block_setCell (i := 6) h6 v6
 have h8 := Joins.block_setCell (i := 7) h7 v7
 simpa using h8
theorem grown_set8 (w : World) (g : Nat) (v0 v1 v2 v3 v4 v5 v6 v7 : Value) :
  w.grownBy ((((((((w.setCell ⟨g, 0, none⟩ v0).setCell ⟨g, 1, none⟩ v1).setCell ⟨g, 2, none⟩ v2).setCell ⟨g, 3, none⟩ v3).setCell ⟨g, 4, none⟩ v4).setCell ⟨g, 5, none⟩ v5).setCell ⟨g, 6, none⟩ v6).setCell ⟨g, 7, none⟩ v7) (some g) :=
 (((((((grown_set1 w g 0 v0).trans (grown_set1 _ g 1 v1)).trans (grown_set1 _ g 2 v2)).trans (grown_set1 _ g 3 v3)).trans (grown_set1 _ g 4 v4)).trans (grown_set1 _ g 5 v5)).trans (grown_set1 _ g 6 v6)).trans (grown_set1 _ g 7 v7)
theorem free8 {w : World} {g : Nat} {T : TypeId} {c0 c1 c2 c3 c4 c5 c6 c7 : Value} (h : w.heap[g]? = some (.cells #[c0, c1, c2, c3, c4, c5, c6, c7] T (0, 0))) :
  (∀ j, w.frozen? ⟨g, j, none⟩ = false) ∧ w.cell? ⟨g, 0, none⟩ = some c0 ∧ w.cell? ⟨g, 1, none⟩ = some c1 ∧ w.cell? ⟨g, 2, none⟩ = some c2 ∧ w.cell? ⟨g, 3, none⟩ = some c3 ∧ w.cell? ⟨g, 4, none⟩ = some c4 ∧ w.cell? ⟨g, 5, none⟩ = some c5 ∧ w.cell? ⟨g, 6, none⟩ = some c6 ∧ w.cell? ⟨g, 7, none⟩ = some c7 :=
 ⟨block_free h, by simpa using block_cell h 0, by simpa using block_cell h 1, by simpa using block_cell h 2, by simpa using block_cell h 3, by simpa using block_cell h 4, by simpa using block_cell h 5, by simpa using block_cell h 6, by simpa using block_cell h 7⟩
theorem own_at8 {w : World} {base m c i : Nat} {A : Option Addr} {x : List Nat} {e : TypeId} (h : w.ownsRow base e 1 (.slice A m c) m (x.map fun (x : Nat) => Value.int .u8 x)) (hi : i + 8 ≤ m) :
  ∃ b, A = some ⟨b, 0, none⟩ ∧ base ≤ b ∧ b < w.heap.size ∧ ∀ j, j < 8 → w.cell? ⟨b, i + j, none⟩ = some (.int .u8 ((x.getD (i + j) 0 : Nat) : Int)) := by
 obtain ⟨g, cap, hv, hb, hlt⟩ := h.form (by omega)
 have hA : A = some ⟨g, 0, none⟩ := by injection hv
 subst hA
 have hl : x.length = m := by simpa using h.1
 refine ⟨g, rfl, hb, hlt, fun j hj => ?_⟩
 obtain ⟨b, o, e1, _, hc⟩ := (Rd.of_own h).2 (by omega)
 injection e1 with e1; injection e1 with e2 e3
 subst e2; subst e3
 have := hc (i + j) (.int .u8 ((x.getD (i + j) 0 : Nat) : Int)) (by simp [List.getD_eq_getElem?_getD, List.getElem?_eq_getElem (show i + j < x.length by omega)])
 simpa using this
end Go.Proofs.YthhiookcknnmdaaGreat
