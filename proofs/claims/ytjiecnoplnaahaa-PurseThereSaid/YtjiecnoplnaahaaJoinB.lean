/- The hash's rounds: the plain words, and the walks of RotateLeft64, left, stir, Stir. Condition: none. The hash's rounds in the reference: the walk of Stir. Condition: none. A number taken in by the hash: the walks of take, In, begin, Begin. Condition: none. The walks of digests to numbers and back, the program's and the reference's. Condition: none. The hash of bytes, plainly: states that take in eights. No condition. A drawn region whose first operations only read, and whose last ones stand in one order: these are taken in that order. Nothing of the program stands in it, so there is no condition. The hash of bytes: the walks of gives, whole, end, bytes. Conditions: bounds on how many bytes. The hash of bytes: the walks of end, bytes, Of. Conditions: bounds on how many bytes. The hash of bytes: the walk of Of. Conditions: bounds on how many bytes. The hash of bytes in the reference: the walks of Bytes, Out, Of. Conditions: bounds on how many bytes. -/
import Derived.Test.YtjiecnoplnaahaaWords
import Derived.Test.YtjiecnoplnaahaaProg
import Derived.Laws.BitsAll
import Derived.WalkLawsBesides
import Derived.RegionTactic
import Derived.Lib.SmallJoins
import Derived.Test.YtjiecnoplnaahaaD8
import Derived.Laws.BitsAllLaws
import Derived.Laws.ShiftsVarLaws
import Derived.Laws.Bits64b
import Derived.Test.YtjiecnoplnaahaaRanges
import Derived.OpenShut
import Derived.StillTailTactics
import Derived.Deep.Draws
import Derived.WalkKit
import Derived.Test.YtjiecnoplnaahaaSlice
import Derived.Test.YtjiecnoplnaahaaJoinA
import Derived.Laws.CopyOwn
import Derived.Deep.RegionLaw
import Derived.Deep.DeepCutAuto
import Derived.Test.YtjiecnoplnaahaaAppend
import Derived.Test.YtjiecnoplnaahaaInv
namespace Go.Proofs.Ytjiecnoplnaahaa
open Go.RowKit Go.Lib
def rot32 (x : Int) : Int := bits .or .u64 (IntKind.u64.wrap (x * 4294967296)) (x / 4294967296)
theorem rot32_any (x : Int) (w : World) : Calls Try.prog 112 #[.int .u64 x, .int .i64 32] w fun e w' => e = .returned (.int .u64 (rot32 x)) ∧ w = w' := by
  have h : bits .and .u64 32 63 = 32 := by decide
  go_enter Try.func112, Try.ntmps112
  go_wp2
  go_ret
  exact ⟨rfl, rfl⟩
theorem left32_any (x : Int) (w : World) : Calls Try.prog 111 #[.int .u64 x, .int .u64 32] w fun e w' => e = .returned (.int .u64 (rot32 x)) ∧ w = w' := by
  go_enter Try.func111, Try.ntmps111
  go_wp2
  go_ret
  exact ⟨rfl, rfl⟩
def rot24 (x : Int) : Int := bits .or .u64 (IntKind.u64.wrap (x * 16777216)) (x / 1099511627776)
theorem rot24_any (x : Int) (w : World) : Calls Try.prog 112 #[.int .u64 x, .int .i64 24] w fun e w' => e = .returned (.int .u64 (rot24 x)) ∧ w = w' := by
  have h : bits .and .u64 24 63 = 24 := by decide
  go_enter Try.func112, Try.ntmps112
  go_wp2
  go_ret
  exact ⟨rfl, rfl⟩
theorem left24_any (x : Int) (w : World) : Calls Try.prog 111 #[.int .u64 x, .int .u64 24] w fun e w' => e = .returned (.int .u64 (rot24 x)) ∧ w = w' := by
  go_enter Try.func111, Try.ntmps111
  go_wp2
  go_ret
  exact ⟨rfl, rfl⟩
def rot16 (x : Int) : Int := bits .or .u64 (IntKind.u64.wrap (x * 65536)) (x / 281474976710656)
theorem rot16_any (x : Int) (w : World) : Calls Try.prog 112 #[.int .u64 x, .int .i64 16] w fun e w' => e = .returned (.int .u64 (rot16 x)) ∧ w = w' := by
  have h : bits .and .u64 16 63 = 16 := by decide
  go_enter Try.func112, Try.ntmps112
  go_wp2
  go_ret
  exact ⟨rfl, rfl⟩
theorem left16_any (x : Int) (w : World) : Calls Try.prog 111 #[.int .u64 x, .int .u64 16] w fun e w' => e = .returned (.int .u64 (rot16 x)) ∧ w = w' := by
  go_enter Try.func111, Try.ntmps111
  go_wp2
  go_ret
  exact ⟨rfl, rfl⟩
def rot63 (x : Int) : Int := bits .or .u64 (IntKind.u64.wrap (x * 9223372036854775808)) (x / 2)
theorem rot63_any (x : Int) (w : World) : Calls Try.prog 112 #[.int .u64 x, .int .i64 63] w fun e w' => e = .returned (.int .u64 (rot63 x)) ∧ w = w' := by
  have h : bits .and .u64 63 63 = 63 := by decide
  go_enter Try.func112, Try.ntmps112
  go_wp2
  go_ret
  exact ⟨rfl, rfl⟩
theorem left63_any (x : Int) (w : World) : Calls Try.prog 111 #[.int .u64 x, .int .u64 63] w fun e w' => e = .returned (.int .u64 (rot63 x)) ∧ w = w' := by
  go_enter Try.func111, Try.ntmps111
  go_wp2
  go_ret
  exact ⟨rfl, rfl⟩
structure Hs where
  a : Int
  b : Int
  c : Int
  d : Int
def Hs.a1 (s : Hs) (i : Int) : Int := bits .xor .u64 (IntKind.u64.wrap (s.a + s.b)) i
def Hs.d1 (s : Hs) (i : Int) : Int := rot32 (bits .xor .u64 s.d (s.a1 i))
def Hs.c1 (s : Hs) (i : Int) : Int := IntKind.u64.wrap (s.c + s.d1 i)
def Hs.b1 (s : Hs) (i : Int) : Int := rot24 (bits .xor .u64 s.b (s.c1 i))
def Hs.a2 (s : Hs) (i : Int) : Int := IntKind.u64.wrap (s.a1 i + s.b1 i)
def Hs.d2 (s : Hs) (i : Int) : Int := rot16 (bits .xor .u64 (s.d1 i) (s.a2 i))
def Hs.c2 (s : Hs) (i : Int) : Int := IntKind.u64.wrap (s.c1 i + s.d2 i)
def Hs.b2 (s : Hs) (i : Int) : Int := rot63 (bits .xor .u64 (s.b1 i) (s.c2 i))
def Hs.round (s : Hs) (i : Int) : Hs := ⟨s.a2 i, s.b2 i, s.c2 i, s.d2 i⟩
/-- The first k rounds. -/
def Hs.rounds (s : Hs) : Nat → Hs
  | 0 => s
  | k + 1 => (s.rounds k).round ((k : Int) + 1)
def Hs.stir (s : Hs) : Hs := s.rounds 6
theorem h_at {w : World} {x : Obj} {k : Nat} (hk : k = w.heap.size) : (w.alloc x).heap[k]? = some x := by subst hk; exact heap_alloc_new w x
theorem h_one (w : World) (a : Obj) : Below w.heap.size w (w.alloc a) := (Below.refl _ _).alloc (Nat.le_refl _) _
theorem h_two (w : World) (a b : Obj) : Below w.heap.size w ((w.alloc a).alloc b) := ((Below.refl _ _).alloc (Nat.le_refl _) _).alloc (by simp) _
/-- A state in its box. -/
def StAt (w : World) (g : Nat) (s : Hs) : Prop := w.heap[g]? = some (.cells #[.int .u64 s.a, .int .u64 s.b, .int .u64 s.c, .int .u64 s.d] 137 (0, 0))
theorem StAt.set {w : World} {g : Nat} {s : Hs} (h : StAt w g s) (a b c d : Int) :
    StAt ((((w.setCell ⟨g, 0, none⟩ (.int .u64 a)).setCell ⟨g, 1, none⟩ (.int .u64 b)).setCell ⟨g, 2, none⟩ (.int .u64 c)).setCell ⟨g, 3, none⟩ (.int .u64 d)) g ⟨a, b, c, d⟩ := by
  have h1 := Joins.block_setCell (i := 0) h (.int .u64 a)
  have h2 := Joins.block_setCell (i := 1) h1 (.int .u64 b)
  have h3 := Joins.block_setCell (i := 2) h2 (.int .u64 c)
  have h4 := Joins.block_setCell (i := 3) h3 (.int .u64 d)
  simpa [StAt] using h4
theorem grown_set1 (w : World) (g i : Nat) (v : Value) : w.grownBy (w.setCell ⟨g, i, none⟩ v) (some g) :=
  ⟨rfl, rfl, rfl, by simp [World.setCell], fun k _ hne => Below.heap_setCell w ⟨g, i, none⟩ v k (fun e => hne (by rw [e]))⟩
theorem grown_set4 (w : World) (g : Nat) (a b c d : Value) : w.grownBy ((((w.setCell ⟨g, 0, none⟩ a).setCell ⟨g, 1, none⟩ b).setCell ⟨g, 2, none⟩ c).setCell ⟨g, 3, none⟩ d) (some g) :=
  (((grown_set1 w g 0 a).trans (grown_set1 _ g 1 b)).trans (grown_set1 _ g 2 c)).trans (grown_set1 _ g 3 d)
theorem hgrown_drew {w w' : World} {r : Option Nat} (h : w.grownBy w' r) : w.grownBy w'.drew r := ⟨h.os, h.tape, h.output, h.size, h.block⟩
theorem hgrown_drew0 {w w' : World} {r : Option Nat} (h : w.drew.grownBy w' r) : w.grownBy w' r := ⟨h.os, h.tape, h.output, h.size, h.block⟩
set_option maxRecDepth 100000 in
set_option maxHeartbeats 2000000 in
theorem stir_any (g : Nat) (s : Hs) (w : World) (h : StAt w g s) :
    Calls Try.prog 110 #[.pointer (some ⟨g, 0, none⟩)] w fun e w' => e = .returned (.tuple #[]) ∧ StAt w' g s.stir ∧ w.grownBy w' (some g) := by
  have z0 := block_cell h 0; have z1 := block_cell h 1; have z2 := block_cell h 2; have z3 := block_cell h 3
  have zf := block_free h
  simp at z0 z1 z2 z3
  have H := Lib.hid h
  clear h
  go_enter Try.func110, Try.ntmps110
  go_wp2
  go_region
  go_wp2
  go_loop [2, 3, 4, 5, 23] (fun a b c d i => ∃ k : Nat, k ≤ 6 ∧ i = .int .u64 (k : Int) ∧ a = .int .u64 (s.rounds k).a ∧ b = .int .u64 (s.rounds k).b ∧ c = .int .u64 (s.rounds k).c ∧ d = .int .u64 (s.rounds k).d) (fun _ _ _ _ i => 6 - (intOf i).toNat)
  case atStart => exact ⟨0, by omega, rfl, rfl, rfl, rfl, rfl⟩
  case round =>
    obtain ⟨k, hk, rfl, rfl, rfl, rfl, rfl⟩ := hrel
    by_cases hlt : k < 6
    · have hd1 : decide ((k : Int) < 6) = true := decide_eq_true (by omega)
      have hw : IntKind.u64.wrap ((k : Int) + 1) = (k : Int) + 1 := by rw [IntKind.wrap_u64]; omega
      have Hr : Hid (s.rounds (k + 1) = (s.rounds k).round ((k : Int) + 1)) := Lib.hid rfl
      generalize s.rounds k = q at *
      go_wp2_with (first | (go_at_call 112; with_reducible refine (rot32_any _ _).mono ?_; rintro e w' ⟨rfl, rfl⟩) | (go_at_call 112; with_reducible refine (rot24_any _ _).mono ?_; rintro e w' ⟨rfl, rfl⟩) | (go_at_call 112; with_reducible refine (rot16_any _ _).mono ?_; rintro e w' ⟨rfl, rfl⟩) | (go_at_call 112; with_reducible refine (rot63_any _ _).mono ?_; rintro e w' ⟨rfl, rfl⟩))
      go_round
      case rel => exact ⟨k + 1, by omega, by go_num, by rw [Hr.out]; rfl, by rw [Hr.out]; rfl, by rw [Hr.out]; rfl, by rw [Hr.out]; rfl⟩
      case measure => simp [intOf]; omega
    · obtain rfl : k = 6 := by omega
      clear hlt hk
      go_wp2
      go_end0
      exact ⟨rfl, StAt.set H.out _ _ _ _, hgrown_drew (grown_set4 w g _ _ _ _)⟩
end Go.Proofs.Ytjiecnoplnaahaa
namespace Go.Proofs.Ytjiecnoplnaahaa
open Go.RowKit Go.Lib
set_option maxRecDepth 100000 in
set_option maxHeartbeats 2000000 in
theorem stirr_any (s : Hs) (w : World) :
    Calls Try.prog 109 #[.agg #[.int .u64 s.a, .int .u64 s.b, .int .u64 s.c, .int .u64 s.d]] w fun e w' => e = .returned (.agg #[.int .u64 s.stir.a, .int .u64 s.stir.b, .int .u64 s.stir.c, .int .u64 s.stir.d]) ∧ Below w.heap.size w w' := by
  have HR : Hid (((w.alloc (.cells #[.int .u64 s.a, .int .u64 s.b, .int .u64 s.c, .int .u64 s.d] 141)).alloc (.cells #[.int .u64 0, .int .u64 0, .int .u64 0, .int .u64 0] 141)).heap[w.heap.size + 1]? = some (.cells #[.int .u64 0, .int .u64 0, .int .u64 0, .int .u64 0] 141 (0, 0))) := h_at (by simp)
  have HT : Hid (((w.alloc (.cells #[.int .u64 s.a, .int .u64 s.b, .int .u64 s.c, .int .u64 s.d] 141)).alloc (.cells #[.int .u64 0, .int .u64 0, .int .u64 0, .int .u64 0] 141)).heap[w.heap.size]? = some (.cells #[.int .u64 s.a, .int .u64 s.b, .int .u64 s.c, .int .u64 s.d] 141 (0, 0))) := block_alloc (heap_alloc_new w _) _
  have Hw := Lib.hid (h_two w (.cells #[.int .u64 s.a, .int .u64 s.b, .int .u64 s.c, .int .u64 s.d] 141) (.cells #[.int .u64 0, .int .u64 0, .int .u64 0, .int .u64 0] 141))
  go_enter Try.func109, Try.ntmps109
  go_wp2
  go_loopw [3] (fun i wr => ∃ k : Nat, k ≤ 6 ∧ i = .int .u64 ((k : Int) + 1) ∧ wr.heap[w.heap.size]? = some (.cells #[.int .u64 (s.rounds k).a, .int .u64 (s.rounds k).b, .int .u64 (s.rounds k).c, .int .u64 (s.rounds k).d] 141 (0, 0)) ∧ wr.heap[w.heap.size + 1]? = some (.cells #[.int .u64 0, .int .u64 0, .int .u64 0, .int .u64 0] 141 (0, 0)) ∧ Below w.heap.size w wr) (fun i _ => 7 - (intOf i).toNat)
  case atStart => exact ⟨0, by omega, rfl, HT.out, HR.out, Hw.out⟩
  case round =>
    obtain ⟨k, hk, rfl, hT, hR, hb⟩ := hrel
    have HTr := Lib.hid hT; have HRr := Lib.hid hR; have Hb := Lib.hid hb
    have z0 := block_cell hT 0; have z1 := block_cell hT 1; have z2 := block_cell hT 2; have z3 := block_cell hT 3
    have zf := block_free hT
    simp at z0 z1 z2 z3
    have hl := block_lt hR
    clear hT hR hb
    by_cases hlt : k < 6
    · have hd1 : decide ((k : Int) + 1 ≤ 6) = true := decide_eq_true (by omega)
      have hw : IntKind.u64.wrap ((k : Int) + 1 + 1) = (k : Int) + 1 + 1 := by rw [IntKind.wrap_u64]; omega
      have Hr : Hid (s.rounds (k + 1) = (s.rounds k).round ((k : Int) + 1)) := Lib.hid rfl
      generalize s.rounds k = q at *
      go_wp2_with fail
      generalize hx : (bits BinOp.xor IntKind.u64 (IntKind.u64.wrap (q.a + q.b)) ((k : Int) + 1)) = x1 at *
      have X1 : Hid (q.a1 ((k : Int) + 1) = x1) := by show bits BinOp.xor IntKind.u64 (IntKind.u64.wrap (q.a + q.b)) ((k : Int) + 1) = x1; exact hx
      clear hx
      generalize hw : wr.setCell ⟨w.heap.size, 0, none⟩ (.int .u64 x1) = w1 at *
      have hT : w1.heap[w.heap.size]? = some (.cells #[.int .u64 x1, .int .u64 q.b, .int .u64 q.c, .int .u64 q.d] 141 (0, 0)) := by
        rw [← hw]; simpa using Joins.block_setCell (i := 0) HTr.out (.int .u64 x1)
      have hR : w1.heap[w.heap.size + 1]? = some (.cells #[.int .u64 0, .int .u64 0, .int .u64 0, .int .u64 0] 141 (0, 0)) := by
        rw [← hw, Below.heap_setCell _ _ _ _ (by show w.heap.size + 1 ≠ w.heap.size; omega)]; exact HRr.out
      have hb : Below w.heap.size w w1 := by rw [← hw]; exact Hb.out.setCell (Nat.le_refl _) _
      clear hw z0 z1 z2 z3 zf hl
      replace HTr := Lib.hid hT; replace HRr := Lib.hid hR; replace Hb := Lib.hid hb
      have z0 := block_cell hT 0; have z1 := block_cell hT 1; have z2 := block_cell hT 2; have z3 := block_cell hT 3
      have zf := block_free hT
      simp at z0 z1 z2 z3
      have hl := block_lt hR
      clear hT hR hb
      refine (left32_any _ _).mono ?_
      rintro e w' ⟨rfl, rfl⟩
      generalize hx : (rot32 (bits BinOp.xor IntKind.u64 q.d x1)) = x2 at *
      have X2 : Hid (q.d1 ((k : Int) + 1) = x2) := by show rot32 (bits .xor .u64 q.d (q.a1 _)) = x2; rw [X1.out]; exact hx
      clear hx
      go_wp2_with fail
      generalize hx : (IntKind.u64.wrap (q.c + x2)) = x3 at *
      have X3 : Hid (q.c1 ((k : Int) + 1) = x3) := by show IntKind.u64.wrap (q.c + q.d1 _) = x3; rw [X2.out]; exact hx
      clear hx
      generalize hw : (w1.setCell ⟨w.heap.size, 3, none⟩ (.int .u64 x2)).setCell ⟨w.heap.size, 2, none⟩ (.int .u64 x3) = w2 at *
      have hT : w2.heap[w.heap.size]? = some (.cells #[.int .u64 x1, .int .u64 q.b, .int .u64 x3, .int .u64 x2] 141 (0, 0)) := by
        rw [← hw]; simpa using Joins.block_setCell (i := 2) (Joins.block_setCell (i := 3) HTr.out (.int .u64 x2)) (.int .u64 x3)
      have hR : w2.heap[w.heap.size + 1]? = some (.cells #[.int .u64 0, .int .u64 0, .int .u64 0, .int .u64 0] 141 (0, 0)) := by
        rw [← hw, Below.heap_setCell _ _ _ _ (by show w.heap.size + 1 ≠ w.heap.size; omega), Below.heap_setCell _ _ _ _ (by show w.heap.size + 1 ≠ w.heap.size; omega)]; exact HRr.out
      have hb : Below w.heap.size w w2 := by rw [← hw]; exact (Hb.out.setCell (Nat.le_refl _) _).setCell (Nat.le_refl _) _
      clear hw z0 z1 z2 z3 zf hl
      replace HTr := Lib.hid hT; replace HRr := Lib.hid hR; replace Hb := Lib.hid hb
      have z0 := block_cell hT 0; have z1 := block_cell hT 1; have z2 := block_cell hT 2; have z3 := block_cell hT 3
      have zf := block_free hT
      simp at z0 z1 z2 z3
      have hl := block_lt hR
      clear hT hR hb
      refine (left24_any _ _).mono ?_
      rintro e w' ⟨rfl, rfl⟩
      generalize hx : (rot24 (bits BinOp.xor IntKind.u64 q.b x3)) = x4 at *
      have X4 : Hid (q.b1 ((k : Int) + 1) = x4) := by show rot24 (bits .xor .u64 q.b (q.c1 _)) = x4; rw [X3.out]; exact hx
      clear hx
      go_wp2_with fail
      generalize hx : (IntKind.u64.wrap (x1 + x4)) = x5 at *
      have X5 : Hid (q.a2 ((k : Int) + 1) = x5) := by show IntKind.u64.wrap (q.a1 _ + q.b1 _) = x5; rw [X1.out, X4.out]; exact hx
      clear hx
      generalize hw : (w2.setCell ⟨w.heap.size, 1, none⟩ (.int .u64 x4)).setCell ⟨w.heap.size, 0, none⟩ (.int .u64 x5) = w3 at *
      have hT : w3.heap[w.heap.size]? = some (.cells #[.int .u64 x5, .int .u64 x4, .int .u64 x3, .int .u64 x2] 141 (0, 0)) := by
        rw [← hw]; simpa using Joins.block_setCell (i := 0) (Joins.block_setCell (i := 1) HTr.out (.int .u64 x4)) (.int .u64 x5)
      have hR : w3.heap[w.heap.size + 1]? = some (.cells #[.int .u64 0, .int .u64 0, .int .u64 0, .int .u64 0] 141 (0, 0)) := by
        rw [← hw, Below.heap_setCell _ _ _ _ (by show w.heap.size + 1 ≠ w.heap.size; omega), Below.heap_setCell _ _ _ _ (by show w.heap.size + 1 ≠ w.heap.size; omega)]; exact HRr.out
      have hb : Below w.heap.size w w3 := by rw [← hw]; exact (Hb.out.setCell (Nat.le_refl _) _).setCell (Nat.le_refl _) _
      clear hw z0 z1 z2 z3 zf hl
      replace HTr := Lib.hid hT; replace HRr := Lib.hid hR; replace Hb := Lib.hid hb
      have z0 := block_cell hT 0; have z1 := block_cell hT 1; have z2 := block_cell hT 2; have z3 := block_cell hT 3
      have zf := block_free hT
      simp at z0 z1 z2 z3
      have hl := block_lt hR
      clear hT hR hb
      refine (left16_any _ _).mono ?_
      rintro e w' ⟨rfl, rfl⟩
      generalize hx : (rot16 (bits BinOp.xor IntKind.u64 x2 x5)) = x6 at *
      have X6 : Hid (q.d2 ((k : Int) + 1) = x6) := by show rot16 (bits .xor .u64 (q.d1 _) (q.a2 _)) = x6; rw [X2.out, X5.out]; exact hx
      clear hx
      go_wp2_with fail
      generalize hx : (IntKind.u64.wrap (x3 + x6)) = x7 at *
      have X7 : Hid (q.c2 ((k : Int) + 1) = x7) := by show IntKind.u64.wrap (q.c1 _ + q.d2 _) = x7; rw [X3.out, X6.out]; exact hx
      clear hx
      generalize hw : (w3.setCell ⟨w.heap.size, 3, none⟩ (.int .u64 x6)).setCell ⟨w.heap.size, 2, none⟩ (.int .u64 x7) = w4 at *
      have hT : w4.heap[w.heap.size]? = some (.cells #[.int .u64 x5, .int .u64 x4, .int .u64 x7, .int .u64 x6] 141 (0, 0)) := by
        rw [← hw]; simpa using Joins.block_setCell (i := 2) (Joins.block_setCell (i := 3) HTr.out (.int .u64 x6)) (.int .u64 x7)
      have hR : w4.heap[w.heap.size + 1]? = some (.cells #[.int .u64 0, .int .u64 0, .int .u64 0, .int .u64 0] 141 (0, 0)) := by
        rw [← hw, Below.heap_setCell _ _ _ _ (by show w.heap.size + 1 ≠ w.heap.size; omega), Below.heap_setCell _ _ _ _ (by show w.heap.size + 1 ≠ w.heap.size; omega)]; exact HRr.out
      have hb : Below w.heap.size w w4 := by rw [← hw]; exact (Hb.out.setCell (Nat.le_refl _) _).setCell (Nat.le_refl _) _
      clear hw z0 z1 z2 z3 zf hl
      replace HTr := Lib.hid hT; replace HRr := Lib.hid hR; replace Hb := Lib.hid hb
      have z0 := block_cell hT 0; have z1 := block_cell hT 1; have z2 := block_cell hT 2; have z3 := block_cell hT 3
      have zf := block_free hT
      simp at z0 z1 z2 z3
      have hl := block_lt hR
      clear hT hR hb
      refine (left63_any _ _).mono ?_
      rintro e w' ⟨rfl, rfl⟩
      generalize hx : (rot63 (bits BinOp.xor IntKind.u64 x4 x7)) = x8 at *
      have X8 : Hid (q.b2 ((k : Int) + 1) = x8) := by show rot63 (bits .xor .u64 (q.b1 _) (q.c2 _)) = x8; rw [X4.out, X7.out]; exact hx
      clear hx
      go_wp2
      go_roundw
      case rel =>
        refine ⟨k + 1, by omega, by go_num, ?_, ?_, Hb.out.setCell (Nat.le_refl _) _⟩
        · rw [Hr.out]
          show _ = some (Obj.cells #[.int .u64 (q.a2 ((k : Int) + 1)), .int .u64 (q.b2 ((k : Int) + 1)), .int .u64 (q.c2 ((k : Int) + 1)), .int .u64 (q.d2 ((k : Int) + 1))] 141 (0, 0))
          rw [X5.out, X6.out, X7.out, X8.out]
          simpa using Joins.block_setCell (i := 1) HTr.out (.int .u64 x8)
        · rw [Below.heap_setCell _ _ _ _ (by show w.heap.size + 1 ≠ w.heap.size; omega)]; exact HRr.out
      case measure => simp [intOf]; omega
    · obtain rfl : k = 6 := by omega
      have hd1 : decide (((6 : Nat) : Int) + 1 ≤ 6) = false := by decide
      clear hlt hk
      have r0 := block_cell HRr.out 0; have r1 := block_cell HRr.out 1; have r2 := block_cell HRr.out 2; have r3 := block_cell HRr.out 3
      have rf := block_free HRr.out
      simp at r0 r1 r2 r3
      go_wp2
      refine bodyPost_ret (v := .agg #[.int .u64 s.stir.a, .int .u64 s.stir.b, .int .u64 s.stir.c, .int .u64 s.stir.d]) (by simp [results, Try.results109, go_sem, r0, r1, r2, r3, Hs.stir]) rfl ⟨rfl, ?_⟩
      repeat refine Below.setCell ?_ (by show w.heap.size ≤ w.heap.size + 1; omega) _
      exact Hb.out
end Go.Proofs.Ytjiecnoplnaahaa
namespace Go.Proofs.Ytjiecnoplnaahaa
open Go.RowKit Go.Lib
def Hs.xorA (s : Hs) (n : Int) : Hs := ⟨bits .xor .u64 s.a n, s.b, s.c, s.d⟩
def Hs.take (s : Hs) (n : Int) : Hs := (s.xorA n).stir
def Hs.begin (k : Int) : Hs := ⟨2611923443488327891, 1376283091369227076, 11820040416388919760, k⟩
set_option maxRecDepth 100000 in
set_option maxHeartbeats 1000000 in
theorem take_any (g : Nat) (s : Hs) (n : Int) (w : World) (h : StAt w g s) :
    Calls Try.prog 107 #[.pointer (some ⟨g, 0, none⟩), .int .u64 n] w fun e w' => e = .returned (.tuple #[]) ∧ StAt w' g (s.take n) ∧ w.grownBy w' (some g) := by
  have z0 := block_cell h 0; have z1 := block_cell h 1; have z2 := block_cell h 2; have z3 := block_cell h 3
  have zf := block_free h
  simp at z0 z1 z2 z3
  have H : Hid (StAt (w.setCell ⟨g, 0, none⟩ (.int .u64 (bits .xor .u64 s.a n))).drew g (s.xorA n)) := Lib.hid (by
    have := Joins.block_setCell (i := 0) h (.int .u64 (bits .xor .u64 s.a n))
    have e : StAt (w.setCell ⟨g, 0, none⟩ (.int .u64 (bits .xor .u64 s.a n))) g (s.xorA n) := by simpa [StAt, Hs.xorA] using this
    exact e)
  have G := Lib.hid (hgrown_drew (grown_set1 w g 0 (.int .u64 (bits .xor .u64 s.a n))))
  clear h
  go_enter Try.func107, Try.ntmps107
  go_wp2
  go_region
  all_goals
    go_wp2_with fail
    refine (stir_any g (s.xorA n) _ H.out).mono ?_
    rintro e w' ⟨rfl, h1, h2⟩
    have H1 := Lib.hid h1
    have H2 := Lib.hid (G.out.trans h2)
    clear h1 h2
    go_wp2
    go_end0
    exact ⟨rfl, H1.out, H2.out⟩
set_option maxRecDepth 100000 in
set_option maxHeartbeats 1000000 in
theorem in_any (s : Hs) (n : Int) (w : World) :
    Calls Try.prog 100 #[.agg #[.int .u64 s.a, .int .u64 s.b, .int .u64 s.c, .int .u64 s.d], .int .u64 n] w fun e w' => e = .returned (.agg #[.int .u64 (s.take n).a, .int .u64 (s.take n).b, .int .u64 (s.take n).c, .int .u64 (s.take n).d]) ∧ Below w.heap.size w w' := by
  have HR : ∀ cs : Array Value, ((w.alloc (.cells cs 141)).alloc (.cells #[.int .u64 0, .int .u64 0, .int .u64 0, .int .u64 0] 141)).heap[w.heap.size + 1]? = some (.cells #[.int .u64 0, .int .u64 0, .int .u64 0, .int .u64 0] 141 (0, 0)) := fun cs => h_at (by simp)
  have HR' := Lib.hid HR
  clear HR
  go_enter Try.func100, Try.ntmps100
  go_wp2_with fail
  refine (stirr_any (s.xorA n) _).mono ?_
  rintro e w1 ⟨rfl, hb1⟩
  have T := block_below (HR'.out _) hb1 (by simp)
  have r0 := block_cell T 0; have r1 := block_cell T 1; have r2 := block_cell T 2; have r3 := block_cell T 3
  have rf := block_free T
  simp at r0 r1 r2 r3
  have Hb := Lib.hid ((h_two w _ _).trans (hb1.mono (by simp; omega)))
  clear T hb1
  go_wp2
  refine bodyPost_ret (v := .agg #[.int .u64 (s.take n).a, .int .u64 (s.take n).b, .int .u64 (s.take n).c, .int .u64 (s.take n).d]) (by simp [results, Try.results100, go_sem, r0, r1, r2, r3, Hs.take]) rfl ⟨rfl, ?_⟩
  repeat refine Below.setCell ?_ (by show w.heap.size ≤ w.heap.size + 1; omega) _
  exact Hb.out
set_option maxRecDepth 100000 in
theorem begin_any (k : Int) (w : World) :
    Calls Try.prog 81 #[.int .u64 k] w fun e w' => e = .returned (.agg #[.int .u64 (Hs.begin k).a, .int .u64 (Hs.begin k).b, .int .u64 (Hs.begin k).c, .int .u64 (Hs.begin k).d]) ∧ Below w.heap.size w w' := by
  go_enter Try.func81, Try.ntmps81
  go_wp2
  refine bodyPost_ret (v := .agg #[.int .u64 (Hs.begin k).a, .int .u64 (Hs.begin k).b, .int .u64 (Hs.begin k).c, .int .u64 (Hs.begin k).d]) (by simp [results, Try.results81, go_sem, Hs.begin]) rfl ⟨rfl, h_one w _⟩
set_option maxRecDepth 100000 in
theorem beginr_any (k : Int) (w : World) :
    Calls Try.prog 86 #[.int .u64 k] w fun e w' => e = .returned (.agg #[.int .u64 (Hs.begin k).a, .int .u64 (Hs.begin k).b, .int .u64 (Hs.begin k).c, .int .u64 (Hs.begin k).d]) ∧ Below w.heap.size w w' := by
  go_enter Try.func86, Try.ntmps86
  go_wp2
  refine bodyPost_ret (v := .agg #[.int .u64 (Hs.begin k).a, .int .u64 (Hs.begin k).b, .int .u64 (Hs.begin k).c, .int .u64 (Hs.begin k).d]) (by simp [results, Try.results86, go_sem, Hs.begin]) rfl ⟨rfl, h_one w _⟩
end Go.Proofs.Ytjiecnoplnaahaa
namespace Go.Proofs.Ytjiecnoplnaahaa
open Go.RowKit Go.Lib

theorem orStep {a x k : Nat} (ha : a < 2 ^ k) (hx : x * 2 ^ k + a < 18446744073709551616) : bits .or .u64 (a : Int) ((x * 2 ^ k : Nat) : Int) = ((a + x * 2 ^ k : Nat) : Int) := by
  rw [bits_or_u64_nat a _ (by omega) (by omega)]
  congr 1
  have := Nat.two_pow_add_eq_or_of_lt (i := k) (b := a) ha x
  rw [Nat.or_comm, Nat.mul_comm x, ← this]; omega
theorem or0 {x : Nat} (hx : x < 256) : bits .or .u64 0 (x : Int) = (x : Int) := by
  have := bits_or_u64_nat 0 x (by omega) (by omega)
  simpa using this
theorem ors {x0 x1 x2 x3 x4 x5 x6 x7 : Nat} (h0 : x0 < 256) (h1 : x1 < 256) (h2 : x2 < 256) (h3 : x3 < 256) (h4 : x4 < 256) (h5 : x5 < 256) (h6 : x6 < 256) (h7 : x7 < 256) :
    bits .or .u64 (bits .or .u64 (bits .or .u64 (bits .or .u64 (bits .or .u64 (bits .or .u64 (bits .or .u64 (bits .or .u64 0 (x0 : Int)) ((x1 : Int) * 256)) ((x2 : Int) * 65536)) ((x3 : Int) * 16777216)) ((x4 : Int) * 4294967296)) ((x5 : Int) * 1099511627776)) ((x6 : Int) * 281474976710656)) ((x7 : Int) * 72057594037927936) = ((D8.mk x0 x1 x2 x3 x4 x5 x6 x7).num : Int) := by
  have e1 : bits .or .u64 (x0 : Int) ((x1 : Int) * 256) = ((x0 + x1 * 256 : Nat) : Int) := by
    have := orStep (a := x0) (x := x1) (k := 8) (by omega) (by omega)
    simpa using this
  have e2 : bits .or .u64 ((x0 + x1 * 256 : Nat) : Int) ((x2 : Int) * 65536) = ((x0 + x1 * 256 + x2 * 65536 : Nat) : Int) := by
    have := orStep (a := x0 + x1 * 256) (x := x2) (k := 16) (by omega) (by omega)
    simpa using this
  have e3 : bits .or .u64 ((x0 + x1 * 256 + x2 * 65536 : Nat) : Int) ((x3 : Int) * 16777216) = ((x0 + x1 * 256 + x2 * 65536 + x3 * 16777216 : Nat) : Int) := by
    have := orStep (a := x0 + x1 * 256 + x2 * 65536) (x := x3) (k := 24) (by omega) (by omega)
    simpa using this
  have e4 : bits .or .u64 ((x0 + x1 * 256 + x2 * 65536 + x3 * 16777216 : Nat) : Int) ((x4 : Int) * 4294967296) = ((x0 + x1 * 256 + x2 * 65536 + x3 * 16777216 + x4 * 4294967296 : Nat) : Int) := by
    have := orStep (a := x0 + x1 * 256 + x2 * 65536 + x3 * 16777216) (x := x4) (k := 32) (by omega) (by omega)
    simpa using this
  have e5 : bits .or .u64 ((x0 + x1 * 256 + x2 * 65536 + x3 * 16777216 + x4 * 4294967296 : Nat) : Int) ((x5 : Int) * 1099511627776) = ((x0 + x1 * 256 + x2 * 65536 + x3 * 16777216 + x4 * 4294967296 + x5 * 1099511627776 : Nat) : Int) := by
    have := orStep (a := x0 + x1 * 256 + x2 * 65536 + x3 * 16777216 + x4 * 4294967296) (x := x5) (k := 40) (by omega) (by omega)
    simpa using this
  have e6 : bits .or .u64 ((x0 + x1 * 256 + x2 * 65536 + x3 * 16777216 + x4 * 4294967296 + x5 * 1099511627776 : Nat) : Int) ((x6 : Int) * 281474976710656) = ((x0 + x1 * 256 + x2 * 65536 + x3 * 16777216 + x4 * 4294967296 + x5 * 1099511627776 + x6 * 281474976710656 : Nat) : Int) := by
    have := orStep (a := x0 + x1 * 256 + x2 * 65536 + x3 * 16777216 + x4 * 4294967296 + x5 * 1099511627776) (x := x6) (k := 48) (by omega) (by omega)
    simpa using this
  have e7 : bits .or .u64 ((x0 + x1 * 256 + x2 * 65536 + x3 * 16777216 + x4 * 4294967296 + x5 * 1099511627776 + x6 * 281474976710656 : Nat) : Int) ((x7 : Int) * 72057594037927936) = ((x0 + x1 * 256 + x2 * 65536 + x3 * 16777216 + x4 * 4294967296 + x5 * 1099511627776 + x6 * 281474976710656 + x7 * 72057594037927936 : Nat) : Int) := by
    have := orStep (a := x0 + x1 * 256 + x2 * 65536 + x3 * 16777216 + x4 * 4294967296 + x5 * 1099511627776 + x6 * 281474976710656) (x := x7) (k := 56) (by omega) (by omega)
    simpa using this
  rw [or0 h0, e1, e2, e3, e4, e5, e6, e7]
  unfold D8.num
  simp only
  omega
set_option maxRecDepth 100000 in
set_option maxHeartbeats 1000000 in
theorem hnum_any (d : D8) (w : World) (h : d.ok) :
    Calls Try.prog 108 #[.agg #[.int .u8 (d.x0 : Int), .int .u8 (d.x1 : Int), .int .u8 (d.x2 : Int), .int .u8 (d.x3 : Int), .int .u8 (d.x4 : Int), .int .u8 (d.x5 : Int), .int .u8 (d.x6 : Int), .int .u8 (d.x7 : Int)]] w fun e w' => e = .returned (.int .u64 (d.num : Int)) ∧ Below w.heap.size w w' := by
  have i0 : ∀ w, (Instr.index 29 (.agg #[.int .u8 (d.x0 : Int), .int .u8 (d.x1 : Int), .int .u8 (d.x2 : Int), .int .u8 (d.x3 : Int), .int .u8 (d.x4 : Int), .int .u8 (d.x5 : Int), .int .u8 (d.x6 : Int), .int .u8 (d.x7 : Int)]) (.int .i64 0)).run Try.prog w = .ok (.int .u8 (d.x0 : Int)) w := fun _ => by kernel_rfl
  have i1 : ∀ w, (Instr.index 29 (.agg #[.int .u8 (d.x0 : Int), .int .u8 (d.x1 : Int), .int .u8 (d.x2 : Int), .int .u8 (d.x3 : Int), .int .u8 (d.x4 : Int), .int .u8 (d.x5 : Int), .int .u8 (d.x6 : Int), .int .u8 (d.x7 : Int)]) (.int .i64 1)).run Try.prog w = .ok (.int .u8 (d.x1 : Int)) w := fun _ => by kernel_rfl
  have i2 : ∀ w, (Instr.index 29 (.agg #[.int .u8 (d.x0 : Int), .int .u8 (d.x1 : Int), .int .u8 (d.x2 : Int), .int .u8 (d.x3 : Int), .int .u8 (d.x4 : Int), .int .u8 (d.x5 : Int), .int .u8 (d.x6 : Int), .int .u8 (d.x7 : Int)]) (.int .i64 2)).run Try.prog w = .ok (.int .u8 (d.x2 : Int)) w := fun _ => by kernel_rfl
  have i3 : ∀ w, (Instr.index 29 (.agg #[.int .u8 (d.x0 : Int), .int .u8 (d.x1 : Int), .int .u8 (d.x2 : Int), .int .u8 (d.x3 : Int), .int .u8 (d.x4 : Int), .int .u8 (d.x5 : Int), .int .u8 (d.x6 : Int), .int .u8 (d.x7 : Int)]) (.int .i64 3)).run Try.prog w = .ok (.int .u8 (d.x3 : Int)) w := fun _ => by kernel_rfl
  have i4 : ∀ w, (Instr.index 29 (.agg #[.int .u8 (d.x0 : Int), .int .u8 (d.x1 : Int), .int .u8 (d.x2 : Int), .int .u8 (d.x3 : Int), .int .u8 (d.x4 : Int), .int .u8 (d.x5 : Int), .int .u8 (d.x6 : Int), .int .u8 (d.x7 : Int)]) (.int .i64 4)).run Try.prog w = .ok (.int .u8 (d.x4 : Int)) w := fun _ => by kernel_rfl
  have i5 : ∀ w, (Instr.index 29 (.agg #[.int .u8 (d.x0 : Int), .int .u8 (d.x1 : Int), .int .u8 (d.x2 : Int), .int .u8 (d.x3 : Int), .int .u8 (d.x4 : Int), .int .u8 (d.x5 : Int), .int .u8 (d.x6 : Int), .int .u8 (d.x7 : Int)]) (.int .i64 5)).run Try.prog w = .ok (.int .u8 (d.x5 : Int)) w := fun _ => by kernel_rfl
  have i6 : ∀ w, (Instr.index 29 (.agg #[.int .u8 (d.x0 : Int), .int .u8 (d.x1 : Int), .int .u8 (d.x2 : Int), .int .u8 (d.x3 : Int), .int .u8 (d.x4 : Int), .int .u8 (d.x5 : Int), .int .u8 (d.x6 : Int), .int .u8 (d.x7 : Int)]) (.int .i64 6)).run Try.prog w = .ok (.int .u8 (d.x6 : Int)) w := fun _ => by kernel_rfl
  have i7 : ∀ w, (Instr.index 29 (.agg #[.int .u8 (d.x0 : Int), .int .u8 (d.x1 : Int), .int .u8 (d.x2 : Int), .int .u8 (d.x3 : Int), .int .u8 (d.x4 : Int), .int .u8 (d.x5 : Int), .int .u8 (d.x6 : Int), .int .u8 (d.x7 : Int)]) (.int .i64 7)).run Try.prog w = .ok (.int .u8 (d.x7 : Int)) w := fun _ => by kernel_rfl
  obtain ⟨h0, h1, h2, h3, h4, h5, h6, h7⟩ := h
  have Hors := Lib.hid (ors h0 h1 h2 h3 h4 h5 h6 h7)
  go_enter Try.func108, Try.ntmps108
  go_wp2
  refine wp_loop_rounds 9 ?_
  iterate 9 (rw [rounds_succ]; go_wp2)
  go_ret
  exact ⟨ret_int Hors.out, (Below.refl _ _).alloc (Nat.le_refl _) _⟩
set_option maxRecDepth 100000 in
set_option maxHeartbeats 1000000 in
theorem hfrom_any (n : Nat) (w : World) (h : n < 18446744073709551616) :
    Calls Try.prog 98 #[.int .u64 (n : Int)] w fun e w' => e = .returned (.agg #[.int .u8 ((D8.of n).x0 : Int), .int .u8 ((D8.of n).x1 : Int), .int .u8 ((D8.of n).x2 : Int), .int .u8 ((D8.of n).x3 : Int), .int .u8 ((D8.of n).x4 : Int), .int .u8 ((D8.of n).x5 : Int), .int .u8 ((D8.of n).x6 : Int), .int .u8 ((D8.of n).x7 : Int)]) ∧ Below w.heap.size w w' := by
  have H := Lib.hid h
  clear h
  go_enter Try.func98, Try.ntmps98
  go_wp2
  refine wp_loop_rounds 9 ?_
  iterate 9 (rw [rounds_succ]; go_wp2)
  have e0 : ((D8.of n).x0 : Int) = (n : Int) % 256 := by unfold D8.of; simp only; omega
  have e1 : ((D8.of n).x1 : Int) = (n : Int) / 256 % 256 := by unfold D8.of; simp only; omega
  have e2 : ((D8.of n).x2 : Int) = (n : Int) / 65536 % 256 := by unfold D8.of; simp only; omega
  have e3 : ((D8.of n).x3 : Int) = (n : Int) / 16777216 % 256 := by unfold D8.of; simp only; omega
  have e4 : ((D8.of n).x4 : Int) = (n : Int) / 4294967296 % 256 := by unfold D8.of; simp only; omega
  have e5 : ((D8.of n).x5 : Int) = (n : Int) / 1099511627776 % 256 := by unfold D8.of; simp only; omega
  have e6 : ((D8.of n).x6 : Int) = (n : Int) / 281474976710656 % 256 := by unfold D8.of; simp only; omega
  have e7 : ((D8.of n).x7 : Int) = (n : Int) / 72057594037927936 % 256 := by unfold D8.of; simp only; omega
  refine bodyPost_ret (v := .agg #[.int .u8 ((D8.of n).x0 : Int), .int .u8 ((D8.of n).x1 : Int), .int .u8 ((D8.of n).x2 : Int), .int .u8 ((D8.of n).x3 : Int), .int .u8 ((D8.of n).x4 : Int), .int .u8 ((D8.of n).x5 : Int), .int .u8 ((D8.of n).x6 : Int), .int .u8 ((D8.of n).x7 : Int)]) (by simp [results, Try.results98, go_sem, e0, e1, e2, e3, e4, e5, e6, e7]) rfl ⟨rfl, ?_⟩
  exact ((Below.refl _ _).alloc (Nat.le_refl _) _).alloc (by simp) _
set_option maxRecDepth 100000 in
set_option maxHeartbeats 1000000 in
theorem rfrom_any (n : Nat) (w : World) (h : n < 18446744073709551616) :
    Calls Try.prog 99 #[.int .u64 (n : Int)] w fun e w' => e = .returned (.agg #[.int .u8 ((D8.of n).x0 : Int), .int .u8 ((D8.of n).x1 : Int), .int .u8 ((D8.of n).x2 : Int), .int .u8 ((D8.of n).x3 : Int), .int .u8 ((D8.of n).x4 : Int), .int .u8 ((D8.of n).x5 : Int), .int .u8 ((D8.of n).x6 : Int), .int .u8 ((D8.of n).x7 : Int)]) ∧ Below w.heap.size w w' := by
  have h' : (n : Int) ≤ 18446744073709551615 := by omega
  clear h
  go_enter Try.func99, Try.ntmps99
  go_wp2
  refine wp_loop_rounds 9 ?_
  iterate 9 (rw [rounds_succ]; go_wp2)
  have e0 : ((D8.of n).x0 : Int) = (n : Int) % 256 := by unfold D8.of; simp only; omega
  have e1 : ((D8.of n).x1 : Int) = (n : Int) / 256 % 256 := by unfold D8.of; simp only; omega
  have e2 : ((D8.of n).x2 : Int) = (n : Int) / 256 / 256 % 256 := by unfold D8.of; simp only; omega
  have e3 : ((D8.of n).x3 : Int) = (n : Int) / 256 / 256 / 256 % 256 := by unfold D8.of; simp only; omega
  have e4 : ((D8.of n).x4 : Int) = (n : Int) / 256 / 256 / 256 / 256 % 256 := by unfold D8.of; simp only; omega
  have e5 : ((D8.of n).x5 : Int) = (n : Int) / 256 / 256 / 256 / 256 / 256 % 256 := by unfold D8.of; simp only; omega
  have e6 : ((D8.of n).x6 : Int) = (n : Int) / 256 / 256 / 256 / 256 / 256 / 256 % 256 := by unfold D8.of; simp only; omega
  have e7 : ((D8.of n).x7 : Int) = (n : Int) / 256 / 256 / 256 / 256 / 256 / 256 / 256 % 256 := by unfold D8.of; simp only; omega
  refine bodyPost_ret (v := .agg #[.int .u8 ((D8.of n).x0 : Int), .int .u8 ((D8.of n).x1 : Int), .int .u8 ((D8.of n).x2 : Int), .int .u8 ((D8.of n).x3 : Int), .int .u8 ((D8.of n).x4 : Int), .int .u8 ((D8.of n).x5 : Int), .int .u8 ((D8.of n).x6 : Int), .int .u8 ((D8.of n).x7 : Int)]) (by simp [results, Try.results99, go_sem, e0, e1, e2, e3, e4, e5, e6, e7]) rfl ⟨rfl, ?_⟩
  exact ((Below.refl _ _).alloc (Nat.le_refl _) _).alloc (by simp) _
set_option maxRecDepth 100000 in
set_option maxHeartbeats 1000000 in
theorem rnum_any (d : D8) (w : World) (h : d.ok) :
    Calls Try.prog 101 #[.agg #[.int .u8 (d.x0 : Int), .int .u8 (d.x1 : Int), .int .u8 (d.x2 : Int), .int .u8 (d.x3 : Int), .int .u8 (d.x4 : Int), .int .u8 (d.x5 : Int), .int .u8 (d.x6 : Int), .int .u8 (d.x7 : Int)]] w fun e w' => e = .returned (.int .u64 (d.num : Int)) ∧ Below w.heap.size w w' := by
  obtain ⟨h0, h1, h2, h3, h4, h5, h6, h7⟩ := h
  go_enter Try.func101, Try.ntmps101
  go_wp2
  refine wp_loop_rounds 9 ?_
  iterate 9 (rw [rounds_succ]; go_wp2)
  go_ret
  exact ⟨ret_int (by unfold D8.num; omega), (Below.refl _ _).alloc (Nat.le_refl _) _⟩
end Go.Proofs.Ytjiecnoplnaahaa
namespace Go.Proofs.Ytjiecnoplnaahaa
open Go.RowKit Go.Lib
/-- The k-th eight of bytes, zeros behind them. -/
def chunk (l : List Nat) (k : Nat) : D8 := ⟨l.getD (8 * k) 0, l.getD (8 * k + 1) 0, l.getD (8 * k + 2) 0, l.getD (8 * k + 3) 0, l.getD (8 * k + 4) 0, l.getD (8 * k + 5) 0, l.getD (8 * k + 6) 0, l.getD (8 * k + 7) 0⟩
def Hs.eat (s : Hs) (l : List Nat) : Nat → Hs
  | 0 => s
  | k + 1 => (s.eat l k).take ((chunk l k).num : Int)
def Hs.bytes (s : Hs) (l : List Nat) : Hs := (s.eat (l ++ [1]) (l.length / 8 + 1)).take (l.length : Int)
def Hs.mix (s : Hs) : Nat := (bits .xor .u64 s.a s.c).toNat
def Hs.out (s : Hs) : D8 := D8.of s.mix
def hashOf (l : List Nat) : D8 := ((Hs.begin 1).bytes l).out
def hashOne (d : D8) : D8 := ((Hs.begin 2).take (d.num : Int)).out
def hashTwo (a b : D8) : D8 := (((Hs.begin 3).take (a.num : Int)).take (b.num : Int)).out
def hashWord (d : D8) (l : List Nat) : D8 := (((Hs.begin 4).take (d.num : Int)).bytes l).out
theorem mix_int (s : Hs) : bits .xor .u64 s.a s.c = (s.mix : Int) := by
  have := wf_u64 (wf_bits .xor .u64 s.a s.c)
  unfold Hs.mix; omega
theorem mix_lt (s : Hs) : s.mix < 18446744073709551616 := by
  have := wf_u64 (wf_bits .xor .u64 s.a s.c)
  unfold Hs.mix; omega
theorem getD_lt {l : List Nat} (h : ∀ x ∈ l, x < 256) (k : Nat) : l.getD k 0 < 256 := by
  rw [List.getD_eq_getElem?_getD]
  rcases hk : l[k]? with _ | x
  · simp
  · simpa using h x (List.mem_of_getElem? hk)
theorem chunk_ok {l : List Nat} (h : ∀ x ∈ l, x < 256) (k : Nat) : (chunk l k).ok :=
  ⟨getD_lt h _, getD_lt h _, getD_lt h _, getD_lt h _, getD_lt h _, getD_lt h _, getD_lt h _, getD_lt h _⟩
theorem snoc_ok {l : List Nat} (h : ∀ x ∈ l, x < 256) : ∀ x ∈ l ++ [1], x < 256 := by
  intro x hx
  rcases List.mem_append.1 hx with h1 | h1
  · exact h x h1
  · simp at h1; omega
theorem getD_front (l m : List Nat) {k : Nat} (h : k < l.length) : (l ++ m).getD k 0 = l.getD k 0 := by
  rw [List.getD_eq_getElem?_getD, List.getD_eq_getElem?_getD, List.getElem?_append_left h]
theorem chunk_front (l m : List Nat) {k : Nat} (h : 8 * k + 8 ≤ l.length) : chunk (l ++ m) k = chunk l k := by
  unfold chunk
  rw [getD_front _ _ (by omega), getD_front _ _ (by omega), getD_front _ _ (by omega), getD_front _ _ (by omega), getD_front _ _ (by omega), getD_front _ _ (by omega), getD_front _ _ (by omega), getD_front _ _ (by omega)]
theorem eat_front (s : Hs) (l m : List Nat) : ∀ k, 8 * k ≤ l.length → s.eat (l ++ m) k = s.eat l k
  | 0, _ => rfl
  | k + 1, h => by
    show (s.eat (l ++ m) k).take _ = (s.eat l k).take _
    rw [eat_front s l m k (by omega), chunk_front l m (by omega)]
/-- Zeros behind bytes change no eight. -/
theorem getD_zeros (l : List Nat) (n k : Nat) : (l ++ List.replicate n 0).getD k 0 = l.getD k 0 := by
  rw [List.getD_eq_getElem?_getD, List.getD_eq_getElem?_getD]
  by_cases h : k < l.length
  · rw [List.getElem?_append_left h]
  · rw [List.getElem?_append_right (by omega), List.getElem?_replicate, List.getElem?_eq_none (by omega)]
    split <;> rfl
theorem chunk_zeros (l : List Nat) (n k : Nat) : chunk (l ++ List.replicate n 0) k = chunk l k := by
  unfold chunk; simp only [getD_zeros]
theorem eat_zeros (s : Hs) (l : List Nat) (n : Nat) : ∀ k, s.eat (l ++ List.replicate n 0) k = s.eat l k
  | 0 => rfl
  | k + 1 => by
    show (s.eat _ k).take _ = (s.eat l k).take _
    rw [eat_zeros s l n k, chunk_zeros]
/-- A digest's bytes as cells. -/
def D8.cs (d : D8) : List Value := [.int .u8 (d.x0 : Int), .int .u8 (d.x1 : Int), .int .u8 (d.x2 : Int), .int .u8 (d.x3 : Int), .int .u8 (d.x4 : Int), .int .u8 (d.x5 : Int), .int .u8 (d.x6 : Int), .int .u8 (d.x7 : Int)]
def D8.bytes (d : D8) : List Nat := [d.x0, d.x1, d.x2, d.x3, d.x4, d.x5, d.x6, d.x7]
theorem D8.bytes_lt {d : D8} (h : d.ok) : ∀ x ∈ d.bytes, x < 256 := by
  obtain ⟨h0, h1, h2, h3, h4, h5, h6, h7⟩ := h
  unfold D8.bytes
  intro x hx
  simp only [List.mem_cons, List.not_mem_nil, or_false] at hx
  rcases hx with rfl | rfl | rfl | rfl | rfl | rfl | rfl | rfl <;> assumption
theorem tail_cells0 (t : List Nat) (ht : t.length < 8) : ((t.map fun (x : Nat) => Value.int .u8 (x : Int)) ++ (List.replicate 8 (Value.int .u8 0)).drop t.length).set t.length (.int .u8 1) = (chunk (t ++ [1]) 0).cs := by
  rcases t with _ | ⟨x0, _ | ⟨x1, _ | ⟨x2, _ | ⟨x3, _ | ⟨x4, _ | ⟨x5, _ | ⟨x6, _ | ⟨x7, t⟩⟩⟩⟩⟩⟩⟩⟩ <;> first | rfl | (simp at ht; omega)
theorem getD_drop (l : List Nat) (n k : Nat) : (l.drop n).getD k 0 = l.getD (n + k) 0 := by
  rw [List.getD_eq_getElem?_getD, List.getD_eq_getElem?_getD, List.getElem?_drop]
theorem chunk_drop (l : List Nat) (q : Nat) : chunk (l.drop (8 * q)) 0 = chunk l q := by
  unfold chunk
  simp only [getD_drop]
  rfl
theorem tail_cells (l : List Nat) : (((l.drop (8 * (l.length / 8))).map fun (x : Nat) => Value.int .u8 (x : Int)) ++ (List.replicate 8 (Value.int .u8 0)).drop (l.drop (8 * (l.length / 8))).length).set (l.drop (8 * (l.length / 8))).length (.int .u8 1) = (chunk (l ++ [1]) (l.length / 8)).cs := by
  rw [tail_cells0 _ (by rw [List.length_drop]; omega), ← chunk_drop (l ++ [1]) (l.length / 8), List.drop_append_of_le_length (by omega)]
theorem set4 {w : World} {g : Nat} {T : TypeId} {c0 c1 c2 c3 : Value} (h : w.heap[g]? = some (.cells #[c0, c1, c2, c3] T (0, 0))) (v0 v1 v2 v3 : Value) :
    ((((w.setCell ⟨g, 0, none⟩ v0).setCell ⟨g, 1, none⟩ v1).setCell ⟨g, 2, none⟩ v2).setCell ⟨g, 3, none⟩ v3).heap[g]? = some (.cells #[v0, v1, v2, v3] T (0, 0)) := by
  have h1 := Joins.block_setCell (i := 0) h v0
  have h2 := Joins.block_setCell (i := 1) h1 v1
  have h3 := Joins.block_setCell (i := 2) h2 v2
  have h4 := Joins.block_setCell (i := 3) h3 v3
  simpa using h4
theorem free4 {w : World} {g : Nat} {T : TypeId} {c0 c1 c2 c3 : Value} (h : w.heap[g]? = some (.cells #[c0, c1, c2, c3] T (0, 0))) :
    (∀ j, w.frozen? ⟨g, j, none⟩ = false) ∧ w.cell? ⟨g, 0, none⟩ = some c0 ∧ w.cell? ⟨g, 1, none⟩ = some c1 ∧ w.cell? ⟨g, 2, none⟩ = some c2 ∧ w.cell? ⟨g, 3, none⟩ = some c3 :=
  ⟨block_free h, by simpa using block_cell h 0, by simpa using block_cell h 1, by simpa using block_cell h 2, by simpa using block_cell h 3⟩
theorem set8 {w : World} {g : Nat} {T : TypeId} {c0 c1 c2 c3 c4 c5 c6 c7 : Value} (h : w.heap[g]? = some (.cells #[c0, c1, c2, c3, c4, c5, c6, c7] T (0, 0))) (v0 v1 v2 v3 v4 v5 v6 v7 : Value) :
    ((((((((w.setCell ⟨g, 0, none⟩ v0).setCell ⟨g, 1, none⟩ v1).setCell ⟨g, 2, none⟩ v2).setCell ⟨g, 3, none⟩ v3).setCell ⟨g, 4, none⟩ v4).setCell ⟨g, 5, none⟩ v5).setCell ⟨g, 6, none⟩ v6).setCell ⟨g, 7, none⟩ v7).heap[g]? = some (.cells #[v0, v1, v2, v3, v4, v5, v6, v7] T (0, 0)) := by
  have h1 := Joins.block_setCell (i := 0) h v0
  have h2 := Joins.block_setCell (i := 1) h1 v1
  have h3 := Joins.block_setCell (i := 2) h2 v2
  have h4 := Joins.block_setCell (i := 3) h3 v3
  have h5 := Joins.block_setCell (i := 4) h4 v4
  have h6 := Joins.block_setCell (i := 5) h5 v5
  have h7 := Joins.block_setCell (i := 6) h6 v6
  have h8 := Joins.block_setCell (i := 7) h7 v7
  simpa using h8
theorem grown_set8 (w : World) (g : Nat) (v0 v1 v2 v3 v4 v5 v6 v7 : Value) :
    w.grownBy ((((((((w.setCell ⟨g, 0, none⟩ v0).setCell ⟨g, 1, none⟩ v1).setCell ⟨g, 2, none⟩ v2).setCell ⟨g, 3, none⟩ v3).setCell ⟨g, 4, none⟩ v4).setCell ⟨g, 5, none⟩ v5).setCell ⟨g, 6, none⟩ v6).setCell ⟨g, 7, none⟩ v7) (some g) :=
  (((((((grown_set1 w g 0 v0).trans (grown_set1 _ g 1 v1)).trans (grown_set1 _ g 2 v2)).trans (grown_set1 _ g 3 v3)).trans (grown_set1 _ g 4 v4)).trans (grown_set1 _ g 5 v5)).trans (grown_set1 _ g 6 v6)).trans (grown_set1 _ g 7 v7)
theorem free8 {w : World} {g : Nat} {T : TypeId} {c0 c1 c2 c3 c4 c5 c6 c7 : Value} (h : w.heap[g]? = some (.cells #[c0, c1, c2, c3, c4, c5, c6, c7] T (0, 0))) :
    (∀ j, w.frozen? ⟨g, j, none⟩ = false) ∧ w.cell? ⟨g, 0, none⟩ = some c0 ∧ w.cell? ⟨g, 1, none⟩ = some c1 ∧ w.cell? ⟨g, 2, none⟩ = some c2 ∧ w.cell? ⟨g, 3, none⟩ = some c3 ∧ w.cell? ⟨g, 4, none⟩ = some c4 ∧ w.cell? ⟨g, 5, none⟩ = some c5 ∧ w.cell? ⟨g, 6, none⟩ = some c6 ∧ w.cell? ⟨g, 7, none⟩ = some c7 :=
  ⟨block_free h, by simpa using block_cell h 0, by simpa using block_cell h 1, by simpa using block_cell h 2, by simpa using block_cell h 3, by simpa using block_cell h 4, by simpa using block_cell h 5, by simpa using block_cell h 6, by simpa using block_cell h 7⟩
theorem own_at8 {w : World} {base m c i : Nat} {A : Option Addr} {x : List Nat} {e : TypeId} (h : w.ownsRow base e 1 (.slice A m c) m (x.map fun (x : Nat) => Value.int .u8 (x : Int))) (hi : i + 8 ≤ m) :
    ∃ b, A = some ⟨b, 0, none⟩ ∧ base ≤ b ∧ b < w.heap.size ∧ ∀ j, j < 8 → w.cell? ⟨b, i + j, none⟩ = some (.int .u8 ((x.getD (i + j) 0 : Nat) : Int)) := by
  obtain ⟨g, cap, hv, hb, hlt⟩ := h.form (by omega)
  have hA : A = some ⟨g, 0, none⟩ := by injection hv
  subst hA
  have hl : x.length = m := by simpa using h.1
  refine ⟨g, rfl, hb, hlt, fun j hj => ?_⟩
  obtain ⟨b, o, e1, _, hc⟩ := (Rd.of_own h).2 (by omega)
  injection e1 with e1; injection e1 with e2 e3
  subst e2; subst e3
  have := hc (i + j) (.int .u8 ((x.getD (i + j) 0 : Nat) : Int)) (by simp [List.getD_eq_getElem?_getD, List.getElem?_eq_getElem (show i + j < x.length by omega)])
  simpa using this
end Go.Proofs.Ytjiecnoplnaahaa
namespace Go.Proofs.Ytjiecnoplnaahaa
open Go.RowKit
theorem wp_region_tail {P : Program} {id : Nat} {Q : Exit → Act → World → Prop} {a : Act} {w : World} {l : List Oper} (n : Nat) (hm : P.follows .mixedOrders = true) (hB : Region.lexTailB .any l.toArray n = true)
    (h : wpStill P l.toArray w.drew (fun a' => wpList P l.toArray Q (l.drop n) a' w.drew) (l.take n) a) : (Code.region id l.toArray true).wp P Q a w :=
  wp_region_still_tail n hm hB h
end Go.Proofs.Ytjiecnoplnaahaa
namespace Go.Proofs.Ytjiecnoplnaahaa
open Go.RowKit Go.Lib

theorem hfrom_mix (s : Hs) (w : World) :
    Calls Try.prog 98 #[.int .u64 (bits .xor .u64 s.a s.c)] w fun e w' => e = .returned (.agg #[.int .u8 (s.out.x0 : Int), .int .u8 (s.out.x1 : Int), .int .u8 (s.out.x2 : Int), .int .u8 (s.out.x3 : Int), .int .u8 (s.out.x4 : Int), .int .u8 (s.out.x5 : Int), .int .u8 (s.out.x6 : Int), .int .u8 (s.out.x7 : Int)]) ∧ Below w.heap.size w w' := by
  rw [mix_int]; exact hfrom_any s.mix w (mix_lt s)
set_option maxRecDepth 100000 in
set_option maxHeartbeats 1000000 in
theorem gives_any (g : Nat) (s : Hs) (w : World) (h : StAt w g s) :
    Calls Try.prog 83 #[.pointer (some ⟨g, 0, none⟩)] w fun e w' => e = .returned (.agg #[.int .u8 (s.out.x0 : Int), .int .u8 (s.out.x1 : Int), .int .u8 (s.out.x2 : Int), .int .u8 (s.out.x3 : Int), .int .u8 (s.out.x4 : Int), .int .u8 (s.out.x5 : Int), .int .u8 (s.out.x6 : Int), .int .u8 (s.out.x7 : Int)]) ∧ Below w.heap.size w w' := by
  have z0 := block_cell h 0; have z2 := block_cell h 2
  have hg := block_lt h
  simp at z0 z2
  clear h
  go_enter Try.func83, Try.ntmps83
  go_wp2
  refine wp_region_tail 9 (by kernel_rfl) (by kernel_rfl) ?_
  simp only [List.take_succ_cons, List.take_zero, List.drop_succ_cons, List.drop_zero]
  repeat still_step
  refine wpStill_nil ?_
  go_wp2_with (go_at_call 98; refine (hfrom_mix s _).mono ?_; rintro e w1 ⟨rfl, hb1⟩; have hbw := (((Below.refl _ _).alloc (Nat.le_refl _) _).drew).trans (hb1.mono (by simp)); have hsz := hb1.size; simp at hsz; have Hbw := Lib.hid hbw; have hbx := block_below (w := ((w.alloc (.cells #[.int .u8 0, .int .u8 0, .int .u8 0, .int .u8 0, .int .u8 0, .int .u8 0, .int .u8 0, .int .u8 0] 29))).drew) (heap_alloc_new w _) hb1 (by simp); obtain ⟨zf, r0, r1, r2, r3, r4, r5, r6, r7⟩ := free8 hbx; have Hbx := Lib.hid hbx; clear hb1 hbw hbx)
  clear zf r0 r1 r2 r3 r4 r5 r6 r7
  have h8 := set8 Hbx.out (.int .u8 (s.out.x0 : Int)) (.int .u8 (s.out.x1 : Int)) (.int .u8 (s.out.x2 : Int)) (.int .u8 (s.out.x3 : Int)) (.int .u8 (s.out.x4 : Int)) (.int .u8 (s.out.x5 : Int)) (.int .u8 (s.out.x6 : Int)) (.int .u8 (s.out.x7 : Int))
  have hg8 := grown_set8 w1 (w.heap.size) (.int .u8 (s.out.x0 : Int)) (.int .u8 (s.out.x1 : Int)) (.int .u8 (s.out.x2 : Int)) (.int .u8 (s.out.x3 : Int)) (.int .u8 (s.out.x4 : Int)) (.int .u8 (s.out.x5 : Int)) (.int .u8 (s.out.x6 : Int)) (.int .u8 (s.out.x7 : Int))
  generalize ((((((((w1.setCell ⟨w.heap.size, 0, none⟩ (.int .u8 (s.out.x0 : Int))).setCell ⟨w.heap.size, 1, none⟩ (.int .u8 (s.out.x1 : Int))).setCell ⟨w.heap.size, 2, none⟩ (.int .u8 (s.out.x2 : Int))).setCell ⟨w.heap.size, 3, none⟩ (.int .u8 (s.out.x3 : Int))).setCell ⟨w.heap.size, 4, none⟩ (.int .u8 (s.out.x4 : Int))).setCell ⟨w.heap.size, 5, none⟩ (.int .u8 (s.out.x5 : Int))).setCell ⟨w.heap.size, 6, none⟩ (.int .u8 (s.out.x6 : Int))).setCell ⟨w.heap.size, 7, none⟩ (.int .u8 (s.out.x7 : Int))) = w2 at *
  obtain ⟨zf, r0, r1, r2, r3, r4, r5, r6, r7⟩ := free8 h8
  have Hb2 := Lib.hid (Hbw.out.grown hg8 Hbw.out.size (fun k hk => by injection hk with hk; omega))
  clear h8 hg8
  refine bodyPost_ret (v := .agg #[.int .u8 (s.out.x0 : Int), .int .u8 (s.out.x1 : Int), .int .u8 (s.out.x2 : Int), .int .u8 (s.out.x3 : Int), .int .u8 (s.out.x4 : Int), .int .u8 (s.out.x5 : Int), .int .u8 (s.out.x6 : Int), .int .u8 (s.out.x7 : Int)]) (by simp [results, Try.results83, go_sem, r0, r1, r2, r3, r4, r5, r6, r7]) rfl ⟨rfl, Hb2.out⟩
theorem Rd.grownNe {w w' : World} {B sz n g : Nat} {A : Option Addr} {xs : List Value} (h : Rd w B sz A n xs) (hg : w.grownBy w' (some g)) (hB : B ≤ w.heap.size) (hne : 0 < n → ∀ b o, A = some ⟨b, o, none⟩ → b ≠ g) : Rd w' B sz A n xs :=
  ⟨h.1, fun hn => by
    obtain ⟨b, o, e, hb, hc⟩ := h.2 hn
    exact ⟨b, o, e, hb, fun j u hu => (World.cell?_of_block (a := ⟨b, o + j, none⟩) (hg.block b (by omega) (fun e' => hne hn b o e (by injection e')))).trans (hc j u hu)⟩⟩
theorem run_arr (A : Option Addr) (c : Nat) (w' : World) : (Instr.arrayAt 29 (.slice A 8 c)).run Try.prog w' = .ok (.pointer A) w' := by
  simp [Instr.arrayAt, run_underlying Try.underlying29]
theorem bv_getD {l : List Nat} {j : Nat} (h : j < l.length) : (bv l)[j]? = some (.int .u8 ((l.getD j 0 : Nat) : Int)) := by
  simp [bv, List.getD_eq_getElem?_getD, List.getElem?_eq_getElem h]
theorem slice8 {w : World} {B n c k : Nat} {A : Option Addr} {l : List Nat} (hr : Rd w B 1 A n (bv l)) (hc : n ≤ c) (hk : k * 8 + 8 ≤ n) :
    ∃ b o, (∀ w', (Instr.sliceAt 64 (.slice A n c) (some (.int .i64 ((k : Int) * 8))) (some (.int .i64 ((k : Int) * 8 + 8))) none).run Try.prog w' = .ok (.slice (some ⟨b, o, none⟩) 8 (c - k * 8)) w') ∧
      w.cell? ⟨b, o, none⟩ = some (.int .u8 ((chunk l k).x0 : Int)) ∧ w.cell? ⟨b, o + 1, none⟩ = some (.int .u8 ((chunk l k).x1 : Int)) ∧ w.cell? ⟨b, o + 2, none⟩ = some (.int .u8 ((chunk l k).x2 : Int)) ∧ w.cell? ⟨b, o + 3, none⟩ = some (.int .u8 ((chunk l k).x3 : Int)) ∧
      w.cell? ⟨b, o + 4, none⟩ = some (.int .u8 ((chunk l k).x4 : Int)) ∧ w.cell? ⟨b, o + 5, none⟩ = some (.int .u8 ((chunk l k).x5 : Int)) ∧ w.cell? ⟨b, o + 6, none⟩ = some (.int .u8 ((chunk l k).x6 : Int)) ∧ w.cell? ⟨b, o + 7, none⟩ = some (.int .u8 ((chunk l k).x7 : Int)) := by
  have hl : l.length = n := by have := hr.1; rw [bv_len] at this; omega
  obtain ⟨A2, hs, hr2⟩ := slice_range elem_u8 sizeOf_u8 hr hc (k := k * 8) (m := k * 8 + 8) (by omega) (by omega)
  rw [show k * 8 + 8 - k * 8 = 8 by omega] at hr2 hs
  obtain ⟨b, o, rfl, _, hcell⟩ := hr2.2 (by omega)
  have e : ∀ j, j < 8 → (((bv l).drop (k * 8 * 1)).take (8 * 1))[j]? = some (.int .u8 ((l.getD (8 * k + j) 0 : Nat) : Int)) := fun j hj => by
    rw [List.getElem?_take_of_lt (by omega), List.getElem?_drop, show k * 8 * 1 + j = 8 * k + j by omega, bv_getD (by omega)]
  refine ⟨b, o, fun w' => ?_, ?_, ?_, ?_, ?_, ?_, ?_, ?_, ?_⟩
  · have := hs w'
    push_cast at this
    exact this
  · exact hcell 0 _ (e 0 (by omega))
  · exact hcell 1 _ (e 1 (by omega))
  · exact hcell 2 _ (e 2 (by omega))
  · exact hcell 3 _ (e 3 (by omega))
  · exact hcell 4 _ (e 4 (by omega))
  · exact hcell 5 _ (e 5 (by omega))
  · exact hcell 6 _ (e 6 (by omega))
  · exact hcell 7 _ (e 7 (by omega))
theorem take_at (g : Nat) (s : Hs) (n : Int) (w w0 : World) (h : Hid (StAt w g s)) (hw : Hid (w0.grownBy w (some g))) :
    Calls Try.prog 107 #[.pointer (some ⟨g, 0, none⟩), .int .u64 n] w fun e w' => e = .returned (.tuple #[]) ∧ Hid (StAt w' g (s.take n)) ∧ Hid (w0.grownBy w' (some g)) :=
  (take_any g s n w h.out).mono fun _ _ ⟨e, a, b⟩ => ⟨e, a, hw.out.trans b⟩
set_option maxRecDepth 100000 in
set_option maxHeartbeats 1000000 in
theorem whole_any (g : Nat) (s : Hs) (A : Option Addr) (n c : Nat) (l : List Nat) (w : World) (h : StAt w g s) (hr : Rd w w.heap.size 1 A n (bv l)) (hne : 0 < n → ∀ b o, A = some ⟨b, o, none⟩ → b ≠ g) (hn : n ≤ 1000000000) (hc : n ≤ c) (hb : ∀ x ∈ l, x < 256) :
    Calls Try.prog 96 #[.pointer (some ⟨g, 0, none⟩), .slice A n c] w fun e w' => e = .returned (.tuple #[]) ∧ StAt w' g (s.eat l (n / 8)) ∧ w.grownBy w' (some g) := by
  have H := Lib.hid h; have Hr := Lib.hid hr; have Hne := Lib.hid hne; have Hb := Lib.hid hb
  have Hlt := Lib.hid (block_lt h)
  clear h hr hne hb
  have hni : (n : Int) ≤ 1000000000 := by omega
  have hra := run_arr
  go_enter Try.func96, Try.ntmps96
  go_wp2
  go_loopw [8] (fun i wr => ∃ k : Nat, k ≤ n / 8 ∧ i = .int .i64 (k : Int) ∧ Hid (StAt wr g (s.eat l k)) ∧ Hid (w.grownBy wr (some g))) (fun i _ => n / 8 - (intOf i).toNat)
  case atStart => exact ⟨0, by omega, rfl, H, Lib.hid (World.grownBy.refl _ _)⟩
  case round =>
    obtain ⟨k, hk, rfl, Hs, Hg⟩ := hrel
    by_cases hlt : k < n / 8
    · have hd : decide ((k : Int) < (n : Int) / 8) = true := decide_eq_true (by omega)
      have hk8 : (k : Int) * 8 + 8 ≤ (n : Int) := by omega
      obtain ⟨b, o, hs, c0, c1, c2, c3, c4, c5, c6, c7⟩ := slice8 (k := k) (Hr.out.grownNe Hg.out (Nat.le_refl _) Hne.out) hc (by omega)
      have Hok := Lib.hid (chunk_ok Hb.out k)
      have Hchunk : Hid (s.eat l (k + 1) = (s.eat l k).take ((chunk l k).num : Int)) := Lib.hid rfl
      generalize chunk l k = d at *
      go_wp2_with fail
      refine (hnum_any d _ Hok.out).mono ?_
      rintro e w1 ⟨rfl, hb1⟩
      have Hs1 : Hid (StAt w1 g (s.eat l k)) := Lib.hid (block_below Hs.out hb1 (block_lt Hs.out))
      have Hg1 := Lib.hid (Hg.out.trans ⟨hb1.os, hb1.tape, hb1.output, hb1.size, fun j hj _ => hb1.block j hj⟩)
      clear hb1 c0 c1 c2 c3 c4 c5 c6 c7 hs
      go_wp2_with fail
      refine (take_at g _ _ _ w Hs1 Hg1).mono ?_
      rintro e w2 ⟨rfl, Hs2, Hg2⟩
      go_wp2
      go_roundw
      case rel => exact ⟨k + 1, by omega, by go_num, by rw [Hchunk.out]; exact Hs2, Hg2⟩
      case measure => simp [intOf]; omega
    · obtain rfl : k = n / 8 := by omega
      have hd : decide (((n / 8 : Nat) : Int) < (n : Int) / 8) = false := decide_eq_false (by omega)
      clear hlt hk
      go_wp2
      go_end0
      exact ⟨rfl, Hs.out, Hg.out⟩
end Go.Proofs.Ytjiecnoplnaahaa
namespace Go.Proofs.Ytjiecnoplnaahaa
open Go.RowKit Go.Lib
def zeros8 : List Value := [.int .u8 0, .int .u8 0, .int .u8 0, .int .u8 0, .int .u8 0, .int .u8 0, .int .u8 0, .int .u8 0]
theorem tail_block {w : World} {g : Nat} {cs : List Value} (h : w.heap[g]? = some (.cells (splice zeros8 0 cs).toArray 29 (0, 0))) (l : List Nat) (hcs : cs = bv (l.drop (8 * (l.length / 8)))) :
    (w.setCell ⟨g, cs.length, none⟩ (.int .u8 1)).heap[g]? = some (.cells #[.int .u8 ((chunk (l ++ [1]) (l.length / 8)).x0 : Int), .int .u8 ((chunk (l ++ [1]) (l.length / 8)).x1 : Int), .int .u8 ((chunk (l ++ [1]) (l.length / 8)).x2 : Int), .int .u8 ((chunk (l ++ [1]) (l.length / 8)).x3 : Int), .int .u8 ((chunk (l ++ [1]) (l.length / 8)).x4 : Int), .int .u8 ((chunk (l ++ [1]) (l.length / 8)).x5 : Int), .int .u8 ((chunk (l ++ [1]) (l.length / 8)).x6 : Int), .int .u8 ((chunk (l ++ [1]) (l.length / 8)).x7 : Int)] 29 (0, 0)) := by
  rw [Joins.block_setCell (i := cs.length) h (.int .u8 1)]
  have e := tail_cells l
  have e2 : (splice zeros8 0 cs).set cs.length (.int .u8 1) = (chunk (l ++ [1]) (l.length / 8)).cs := by
    rw [← e, hcs]
    simp only [splice, List.take_zero, List.nil_append, Nat.zero_add, bv_len]
    rfl
  simp only [List.setIfInBounds_toArray, e2]
  rfl
theorem heap_alloc_new' {w : World} {x : Obj} {k : Nat} (hk : k = w.heap.size) : (w.alloc x).drew.heap[k]? = some x := by subst hk; exact heap_alloc_new w x
theorem add_at (b o j : Nat) : (⟨b, o, none⟩ : Addr).add j = ⟨b, o + j, none⟩ := by
  unfold Addr.add
  split
  · simp_all
  · rfl
theorem block_of_alloc {w : World} {x y : Obj} {g : Nat} (h : (w.alloc x).drew.heap[g]? = some y) (hg : g < w.heap.size) : w.heap[g]? = some y := (Below.heap_alloc w x g hg).symm.trans h
set_option maxRecDepth 100000 in
set_option maxHeartbeats 1000000 in
theorem hend_any (g : Nat) (s : Hs) (A : Option Addr) (n c : Nat) (l : List Nat) (w : World) (h : StAt w g s) (hr : Rd w w.heap.size 1 A n (bv l)) (hn : n ≤ 1000000000) (hc : n ≤ c) (hb : ∀ x ∈ l, x < 256) :
    Calls Try.prog 97 #[.pointer (some ⟨g, 0, none⟩), .slice A n c] w fun e w' => e = .returned (.tuple #[]) ∧ StAt w' g ((s.take ((chunk (l ++ [1]) (n / 8)).num : Int)).take (n : Int)) ∧ w.grownBy w' (some g) := by
  have hl : l.length = n := by have := hr.1; rw [bv_len] at this; omega
  have Hok := Lib.hid (chunk_ok (snoc_ok hb) (n / 8))
  have hlt := block_lt h
  have Hs0 : Hid (StAt (w.alloc (.cells zeros8.toArray 29)).drew g s) := Lib.hid (block_alloc h _)
  obtain ⟨A2, hs, hr2⟩ := slice_from (t := 64) elem_u8 sizeOf_u8 hr hc (k := 8 * (n / 8)) (by omega)
  have e8 : ((8 * (n / 8) : Nat) : Int) = (n : Int) / 8 * 8 := by omega
  rw [e8] at hs
  obtain ⟨cs, hcs⟩ : ∃ cs, cs = bv (l.drop (8 * (n / 8))) := ⟨_, rfl⟩
  have hlen : cs.length = n - 8 * (n / 8) := by rw [hcs, bv_len, List.length_drop, hl]
  have hr3 : Rd w w.heap.size 1 A2 (n - 8 * (n / 8)) cs := by rw [hcs]; have := hr2; unfold bv at this ⊢; rw [List.map_drop]; simpa using this
  have h1 : ∀ v ∈ cs, v.oneCell' = true := by rw [hcs]; exact bv_one _
  have Htb : Hid (∀ w' : World, w'.heap[w.heap.size]? = some (.cells (splice zeros8 0 cs).toArray 29 (0, 0)) → (w'.setCell ⟨w.heap.size, cs.length, none⟩ (.int .u8 1)).heap[w.heap.size]? = some (.cells #[.int .u8 ((chunk (l ++ [1]) (n / 8)).x0 : Int), .int .u8 ((chunk (l ++ [1]) (n / 8)).x1 : Int), .int .u8 ((chunk (l ++ [1]) (n / 8)).x2 : Int), .int .u8 ((chunk (l ++ [1]) (n / 8)).x3 : Int), .int .u8 ((chunk (l ++ [1]) (n / 8)).x4 : Int), .int .u8 ((chunk (l ++ [1]) (n / 8)).x5 : Int), .int .u8 ((chunk (l ++ [1]) (n / 8)).x6 : Int), .int .u8 ((chunk (l ++ [1]) (n / 8)).x7 : Int)] 29 (0, 0))) :=
    Lib.hid (fun w' hw' => by have := tail_block hw' l (by rw [hcs, hl]); rwa [hl] at this)
  have Hr3 := Lib.hid hr3; have Hlen := Lib.hid hlen
  have hcl : cs.length < 8 := by omega
  have Hz : Hid (zeros8.toArray = #[.int .u8 0, .int .u8 0, .int .u8 0, .int .u8 0, .int .u8 0, .int .u8 0, .int .u8 0, .int .u8 0]) := Lib.hid rfl
  have hni : (n : Int) ≤ 1000000000 := by omega
  have hw8 : IntKind.i64.wrap ((n : Int) / 8) = (n : Int) / 8 := IntWalk.i64_in _ (by omega)
  have hwr : IntKind.i64.wrap ((n : Int) / 8 * 8) = (n : Int) / 8 * 8 := IntWalk.i64_in _ (by omega)
  clear hr hr2 hr3 hcs hlen e8 h hb hl
  generalize chunk (l ++ [1]) (n / 8) = d at *
  go_enter Try.func97, Try.ntmps97
  go_wp2
  refine wp_region_tail 7 (by kernel_rfl) (by kernel_rfl) ?_
  simp only [List.take_succ_cons, List.take_zero, List.drop_succ_cons, List.drop_zero]
  repeat still_step
  refine wpStill_nil ?_
  refine wpList_copy_splice (by rfl) (.tmp 6) (.tmp 12) 64 64 (by rfl) 5 Try.underlying64 (by kernel_rfl) (some ⟨w.heap.size, 0, none⟩) A2 8 8 (n - 8 * (n / 8)) (c - 8 * (n / 8)) (by rfl) (by rfl) w.heap.size 0 zeros8 29 ?_ cs ?_ ?_ ?_ h1 w.heap.size w ?_ (Nat.le_refl _) ?_
  · exact heap_alloc_new' (x := .cells zeros8.toArray 29 (0, 0)) rfl
  · rw [Hlen.out]; exact (Nat.min_eq_left (by omega)).symm
  · intro h0
    obtain ⟨b, o, rfl, hb, hcell⟩ := Hr3.out.2 (by rw [← Hlen.out]; exact h0)
    refine ⟨rfl, ⟨b, o, none⟩, rfl, fun j v hv => ?_⟩
    rw [add_at]
    exact (World.cell?_alloc_lt w _ ⟨b, o + j, none⟩ (by show b < _; exact hb)).trans (hcell j v hv)
  · show 0 + cs.length ≤ 8; omega
  · exact ((Below.refl _ _).alloc (Nat.le_refl _) _).drew
  intro w2 Hg2 hb2
  have Hs2 : Hid (StAt w2 g s) := Lib.hid (block_below (block_of_alloc Hs0.out hlt) hb2 hlt)
  have hsz2 := block_lt Hg2.out
  have zf := block_free Hg2.out
  obtain ⟨v0, hv0⟩ : ∃ v0, w2.cell? ⟨w.heap.size, cs.length, none⟩ = some v0 := by
    rw [block_cell Hg2.out]
    refine ⟨_, Array.getElem?_eq_getElem (by simp only [List.size_toArray]; rw [length_splice _ _ _ (by show 0 + cs.length ≤ 8; omega)]; show cs.length < 8; exact hcl)⟩
  have Hb2 := Lib.hid hb2
  clear hb2
  go_upto_region 3 with fail
  have hB3 := Htb.out w2 Hg2.out
  have hs3 : StAt (w2.setCell ⟨w.heap.size, cs.length, none⟩ (.int .u8 1)) g s := (Below.heap_setCell _ _ _ _ (by show g ≠ w.heap.size; omega)).trans Hs2.out
  have hb3 : Below w.heap.size w (w2.setCell ⟨w.heap.size, cs.length, none⟩ (.int .u8 1)) := Hb2.out.setCell (Nat.le_refl _) _
  clear zf hv0
  generalize w2.setCell ⟨w.heap.size, cs.length, none⟩ (.int .u8 1) = w3 at *
  obtain ⟨zf, r0, r1, r2, r3, r4, r5, r6, r7⟩ := free8 hB3
  have Hs3 := Lib.hid hs3; have Hb3 := Lib.hid hb3
  clear hB3 hs3 hb3
  go_wp2_with fail
  refine (hnum_any d _ Hok.out).mono ?_
  rintro e w4 ⟨rfl, hb4⟩
  have Hs4 : Hid (StAt w4 g s) := Lib.hid (block_below Hs3.out hb4 (block_lt Hs3.out))
  have Hg4 : Hid (w.grownBy w4 (some g)) := Lib.hid (by
    have h9 : Below w.heap.size w w4 := Hb3.out.trans (hb4.mono Hb3.out.size)
    exact ⟨h9.os, h9.tape, h9.output, h9.size, fun j hj _ => h9.block j hj⟩)
  clear hb4 r0 r1 r2 r3 r4 r5 r6 r7 zf
  go_wp2_with fail
  refine (take_at g _ _ _ w Hs4 Hg4).mono ?_
  rintro e w5 ⟨rfl, Hs5, Hg5⟩
  go_wp2_with fail
  refine (take_at g _ _ _ w Hs5 Hg5).mono ?_
  rintro e w6 ⟨rfl, Hs6, Hg6⟩
  go_wp2
  go_end0
  exact ⟨rfl, Hs6.out, Hg6.out⟩
set_option maxRecDepth 100000 in
set_option maxHeartbeats 1000000 in
theorem hbytes_any (g : Nat) (s : Hs) (A : Option Addr) (n c : Nat) (l : List Nat) (w : World) (h : StAt w g s) (hr : Rd w w.heap.size 1 A n (bv l)) (hne : 0 < n → ∀ b o, A = some ⟨b, o, none⟩ → b ≠ g) (hn : n ≤ 1000000000) (hc : n ≤ c) (hb : ∀ x ∈ l, x < 256) :
    Calls Try.prog 82 #[.pointer (some ⟨g, 0, none⟩), .slice A n c] w fun e w' => e = .returned (.tuple #[]) ∧ Hid (StAt w' g (s.bytes l)) ∧ Hid (w.grownBy w' (some g)) := by
  have hl : l.length = n := by have := hr.1; rw [bv_len] at this; omega
  have H := Lib.hid h; have Hr := Lib.hid hr; have Hne := Lib.hid hne; have Hb := Lib.hid hb; have Hl := Lib.hid hl
  clear h hr hne hb hl
  go_enter Try.func82, Try.ntmps82
  go_wp2_with fail
  refine (whole_any g s A n c l w H.out Hr.out Hne.out hn hc Hb.out).mono ?_
  rintro e w1 ⟨rfl, h1, hg1⟩
  have H1 := Lib.hid h1; have Hg1 := Lib.hid hg1
  clear h1 hg1
  go_wp2_with fail
  refine (hend_any g (s.eat l (n / 8)) A n c l w1 H1.out ((Hr.out.grownNe Hg1.out (Nat.le_refl _) Hne.out).more Hg1.out.size) hn hc Hb.out).mono ?_
  rintro e w2 ⟨rfl, h2, hg2⟩
  have H2 : Hid (StAt w2 g (s.bytes l)) := Lib.hid (by
    unfold Hs.bytes
    rw [Hl.out]
    show StAt w2 g (((s.eat (l ++ [1]) (n / 8)).take _).take _)
    rw [eat_front s l [1] (n / 8) (by rw [Hl.out]; omega)]
    exact h2)
  have Hg2 := Lib.hid (Hg1.out.trans hg2)
  clear h2 hg2
  go_wp2
  go_end0
  exact ⟨rfl, H2, Hg2⟩
end Go.Proofs.Ytjiecnoplnaahaa
namespace Go.Proofs.Ytjiecnoplnaahaa
open Go.RowKit Go.Lib

set_option maxRecDepth 100000 in
set_option maxHeartbeats 1000000 in
theorem of_any (A : Option Addr) (n c : Nat) (l : List Nat) (w : World) (hr : Rd w w.heap.size 1 A n (bv l)) (hn : n ≤ 1000000000) (hc : n ≤ c) (hb : ∀ x ∈ l, x < 256) :
    Calls Try.prog 62 #[.slice A n c] w fun e w' => e = .returned (.agg #[.int .u8 ((hashOf l).x0 : Int), .int .u8 ((hashOf l).x1 : Int), .int .u8 ((hashOf l).x2 : Int), .int .u8 ((hashOf l).x3 : Int), .int .u8 ((hashOf l).x4 : Int), .int .u8 ((hashOf l).x5 : Int), .int .u8 ((hashOf l).x6 : Int), .int .u8 ((hashOf l).x7 : Int)]) ∧ Below w.heap.size w w' := by
  have Hr := Lib.hid hr; have Hb := Lib.hid hb
  clear hr hb
  have HX : Hid ((w.alloc (.cells #[.int .u8 0, .int .u8 0, .int .u8 0, .int .u8 0, .int .u8 0, .int .u8 0, .int .u8 0, .int .u8 0] 29)).heap[w.heap.size]? = some (.cells #[.int .u8 0, .int .u8 0, .int .u8 0, .int .u8 0, .int .u8 0, .int .u8 0, .int .u8 0, .int .u8 0] 29 (0, 0))) := heap_alloc_new w _
  go_enter Try.func62, Try.ntmps62
  go_wp2_with fail
  refine (begin_any 1 _).mono ?_
  rintro e w1 ⟨rfl, hb1⟩
  have Hbx1 := Lib.hid (block_below HX.out hb1 (by simp))
  have Hb1 := Lib.hid ((h_one w (.cells #[.int .u8 0, .int .u8 0, .int .u8 0, .int .u8 0, .int .u8 0, .int .u8 0, .int .u8 0, .int .u8 0] 29)).trans (hb1.mono (by simp)))
  have hsz1 := hb1.size
  simp at hsz1
  clear hb1
  go_upto_region 2 with fail
  generalize hs0 : Hs.begin 1 = s0 at *
  have h2 : StAt (w1.alloc (.cells #[.int .u64 s0.a, .int .u64 s0.b, .int .u64 s0.c, .int .u64 s0.d] 137)) w1.heap.size s0 := heap_alloc_new w1 _
  have hb2 : Below w.heap.size w (w1.alloc (.cells #[.int .u64 s0.a, .int .u64 s0.b, .int .u64 s0.c, .int .u64 s0.d] 137)) := Hb1.out.alloc (Hb1.out.size) _
  have hbx2 := block_alloc Hbx1.out (.cells #[.int .u64 s0.a, .int .u64 s0.b, .int .u64 s0.c, .int .u64 s0.d] 137)
  have hz2 : (w1.alloc (.cells #[.int .u64 s0.a, .int .u64 s0.b, .int .u64 s0.c, .int .u64 s0.d] 137)).heap.size = w1.heap.size + 1 := by simp
  generalize w1.alloc (.cells #[.int .u64 s0.a, .int .u64 s0.b, .int .u64 s0.c, .int .u64 s0.d] 137) = w2 at *
  have Hs0 := Lib.hid hs0; have H2 := Lib.hid h2; have Hb2 := Lib.hid hb2; have Hbx2 := Lib.hid hbx2; have Hz2 := Lib.hid hz2
  have hlt2 : w1.heap.size < w2.heap.size := by omega
  generalize w1.heap.size = g at *
  clear hs0 h2 hb2 hbx2 hz2 Hbx1 Hb1
  go_wp2_with fail
  refine (hbytes_any g s0 A n c l w2 H2.out ((Hr.out.below Hb2.out (Nat.le_refl _)).more Hb2.out.size) (fun h0 b o e => ?_) hn hc Hb.out).mono ?_
  · obtain ⟨b', o', e', hlt, _⟩ := Hr.out.2 h0
    rw [e] at e'; injection e' with e'; injection e' with e1 e2; omega
  rintro e w3 ⟨rfl, H3, Hg3⟩
  have Hb3 := Lib.hid (Hb2.out.grown Hg3.out Hb2.out.size (fun k hk => by injection hk with hk; omega))
  have Hbx3 := Lib.hid (block_grown Hbx2.out Hg3.out (by intro e; injection e with e; omega))
  go_wp2_with fail
  refine (gives_any g _ _ H3.out).mono ?_
  rintro e w4 ⟨rfl, hb4⟩
  have hbx4 := block_below Hbx3.out hb4 (block_lt Hbx3.out)
  obtain ⟨zf, r0, r1, r2, r3, r4, r5, r6, r7⟩ := free8 hbx4
  have Hbx := Lib.hid hbx4
  have Hbw := Lib.hid (Hb3.out.trans (hb4.mono Hb3.out.size))
  clear hb4 hbx4
  have Hout : Hid ((s0.bytes l).out = hashOf l) := Lib.hid (by rw [← Hs0.out]; rfl)
  generalize (s0.bytes l).out = d at *
  go_wp2
  clear zf r0 r1 r2 r3 r4 r5 r6 r7
  have h8 := set8 Hbx.out (.int .u8 (d.x0 : Int)) (.int .u8 (d.x1 : Int)) (.int .u8 (d.x2 : Int)) (.int .u8 (d.x3 : Int)) (.int .u8 (d.x4 : Int)) (.int .u8 (d.x5 : Int)) (.int .u8 (d.x6 : Int)) (.int .u8 (d.x7 : Int))
  have hg8 := grown_set8 w4 (w.heap.size) (.int .u8 (d.x0 : Int)) (.int .u8 (d.x1 : Int)) (.int .u8 (d.x2 : Int)) (.int .u8 (d.x3 : Int)) (.int .u8 (d.x4 : Int)) (.int .u8 (d.x5 : Int)) (.int .u8 (d.x6 : Int)) (.int .u8 (d.x7 : Int))
  generalize ((((((((w4.setCell ⟨w.heap.size, 0, none⟩ (.int .u8 (d.x0 : Int))).setCell ⟨w.heap.size, 1, none⟩ (.int .u8 (d.x1 : Int))).setCell ⟨w.heap.size, 2, none⟩ (.int .u8 (d.x2 : Int))).setCell ⟨w.heap.size, 3, none⟩ (.int .u8 (d.x3 : Int))).setCell ⟨w.heap.size, 4, none⟩ (.int .u8 (d.x4 : Int))).setCell ⟨w.heap.size, 5, none⟩ (.int .u8 (d.x5 : Int))).setCell ⟨w.heap.size, 6, none⟩ (.int .u8 (d.x6 : Int))).setCell ⟨w.heap.size, 7, none⟩ (.int .u8 (d.x7 : Int))) = w5 at *
  obtain ⟨zf, r0, r1, r2, r3, r4, r5, r6, r7⟩ := free8 h8
  have Hb2 := Lib.hid (Hbw.out.grown hg8 Hbw.out.size (fun k hk => by injection hk with hk; omega))
  clear h8 hg8
  refine bodyPost_ret (v := .agg #[.int .u8 (d.x0 : Int), .int .u8 (d.x1 : Int), .int .u8 (d.x2 : Int), .int .u8 (d.x3 : Int), .int .u8 (d.x4 : Int), .int .u8 (d.x5 : Int), .int .u8 (d.x6 : Int), .int .u8 (d.x7 : Int)]) (by simp [results, Try.results62, go_sem, r0, r1, r2, r3, r4, r5, r6, r7]) rfl ⟨by rw [Hout.out], Hb2.out⟩
end Go.Proofs.Ytjiecnoplnaahaa
namespace Go.Proofs.Ytjiecnoplnaahaa
open Go.RowKit Go.Lib

theorem sd_of {w : World} {g g5 : Nat} {T T5 : TypeId} {c0 c1 c2 c3 x0 x1 x2 x3 x4 x5 x6 x7 : Value} (h : w.heap[g]? = some (.cells #[c0, c1, c2, c3] T (0, 0))) (h5 : w.heap[g5]? = some (.cells #[x0, x1, x2, x3, x4, x5, x6, x7] T5 (0, 0))) :
    (w.cell? ⟨g, 0, none⟩ = some c0 ∧ w.cell? ⟨g, 1, none⟩ = some c1 ∧ w.cell? ⟨g, 2, none⟩ = some c2 ∧ w.cell? ⟨g, 3, none⟩ = some c3) ∧ w.cell? ⟨g5, 0, none⟩ = some x0 ∧ w.cell? ⟨g5, 1, none⟩ = some x1 ∧ w.cell? ⟨g5, 2, none⟩ = some x2 ∧ w.cell? ⟨g5, 3, none⟩ = some x3 ∧ w.cell? ⟨g5, 4, none⟩ = some x4 ∧ w.cell? ⟨g5, 5, none⟩ = some x5 ∧ w.cell? ⟨g5, 6, none⟩ = some x6 ∧ w.cell? ⟨g5, 7, none⟩ = some x7 := by
  obtain ⟨_, a0, a1, a2, a3⟩ := free4 h
  obtain ⟨_, r⟩ := free8 h5
  exact ⟨⟨a0, a1, a2, a3⟩, r⟩
theorem rfrom_mix (s : Hs) (w : World) :
    Calls Try.prog 99 #[.int .u64 (bits .xor .u64 s.a s.c)] w fun e w' => e = .returned (.agg #[.int .u8 (s.out.x0 : Int), .int .u8 (s.out.x1 : Int), .int .u8 (s.out.x2 : Int), .int .u8 (s.out.x3 : Int), .int .u8 (s.out.x4 : Int), .int .u8 (s.out.x5 : Int), .int .u8 (s.out.x6 : Int), .int .u8 (s.out.x7 : Int)]) ∧ Below w.heap.size w w' := by
  rw [mix_int]; exact rfrom_any s.mix w (mix_lt s)
set_option maxRecDepth 100000 in
set_option maxHeartbeats 1000000 in
theorem outr_any (s : Hs) (w : World) :
    Calls Try.prog 84 #[.agg #[.int .u64 s.a, .int .u64 s.b, .int .u64 s.c, .int .u64 s.d]] w fun e w' => e = .returned (.agg #[.int .u8 (s.out.x0 : Int), .int .u8 (s.out.x1 : Int), .int .u8 (s.out.x2 : Int), .int .u8 (s.out.x3 : Int), .int .u8 (s.out.x4 : Int), .int .u8 (s.out.x5 : Int), .int .u8 (s.out.x6 : Int), .int .u8 (s.out.x7 : Int)]) ∧ Below w.heap.size w w' := by
  go_enter Try.func84, Try.ntmps84
  go_wp2_with fail
  refine (rfrom_mix s _).mono ?_
  rintro e w1 ⟨rfl, hb1⟩
  have hbx1 := block_below (h_at (w := w.alloc (.cells #[.int .u64 s.a, .int .u64 s.b, .int .u64 s.c, .int .u64 s.d] 141)) (x := .cells #[.int .u8 0, .int .u8 0, .int .u8 0, .int .u8 0, .int .u8 0, .int .u8 0, .int .u8 0, .int .u8 0] 22 (0, 0)) (k := w.heap.size + 1) (by simp)) hb1 (by simp)
  obtain ⟨zf, r0, r1, r2, r3, r4, r5, r6, r7⟩ := free8 hbx1
  have Hbx := Lib.hid hbx1
  have Hbw := Lib.hid ((h_two w _ _).trans (hb1.mono (by simp; omega)))
  have hsz1 := hb1.size
  simp at hsz1
  clear hb1 hbx1
  generalize hd : s.out = d at *
  have Hd := Lib.hid hd
  clear hd
  go_wp2
  clear zf r0 r1 r2 r3 r4 r5 r6 r7
  have h8 := set8 Hbx.out (.int .u8 (d.x0 : Int)) (.int .u8 (d.x1 : Int)) (.int .u8 (d.x2 : Int)) (.int .u8 (d.x3 : Int)) (.int .u8 (d.x4 : Int)) (.int .u8 (d.x5 : Int)) (.int .u8 (d.x6 : Int)) (.int .u8 (d.x7 : Int))
  have hg8 := grown_set8 w1 (w.heap.size + 1) (.int .u8 (d.x0 : Int)) (.int .u8 (d.x1 : Int)) (.int .u8 (d.x2 : Int)) (.int .u8 (d.x3 : Int)) (.int .u8 (d.x4 : Int)) (.int .u8 (d.x5 : Int)) (.int .u8 (d.x6 : Int)) (.int .u8 (d.x7 : Int))
  generalize ((((((((w1.setCell ⟨w.heap.size + 1, 0, none⟩ (.int .u8 (d.x0 : Int))).setCell ⟨w.heap.size + 1, 1, none⟩ (.int .u8 (d.x1 : Int))).setCell ⟨w.heap.size + 1, 2, none⟩ (.int .u8 (d.x2 : Int))).setCell ⟨w.heap.size + 1, 3, none⟩ (.int .u8 (d.x3 : Int))).setCell ⟨w.heap.size + 1, 4, none⟩ (.int .u8 (d.x4 : Int))).setCell ⟨w.heap.size + 1, 5, none⟩ (.int .u8 (d.x5 : Int))).setCell ⟨w.heap.size + 1, 6, none⟩ (.int .u8 (d.x6 : Int))).setCell ⟨w.heap.size + 1, 7, none⟩ (.int .u8 (d.x7 : Int))) = w5 at *
  obtain ⟨zf, r0, r1, r2, r3, r4, r5, r6, r7⟩ := free8 h8
  have Hb2 := Lib.hid (Hbw.out.grown hg8 Hbw.out.size (fun k hk => by injection hk with hk; omega))
  clear h8 hg8
  refine bodyPost_ret (v := .agg #[.int .u8 (d.x0 : Int), .int .u8 (d.x1 : Int), .int .u8 (d.x2 : Int), .int .u8 (d.x3 : Int), .int .u8 (d.x4 : Int), .int .u8 (d.x5 : Int), .int .u8 (d.x6 : Int), .int .u8 (d.x7 : Int)]) (by simp [results, Try.results84, go_sem, r0, r1, r2, r3, r4, r5, r6, r7]) rfl ⟨by rw [Hd.out], Hb2.out⟩
def slLen : Value → Nat
  | .slice _ n _ => n
  | _ => 0
/-- Bytes, the 1 behind them, and zeros. -/
def padN (l : List Nat) (j : Nat) : List Nat := l ++ [1] ++ List.replicate j 0
theorem padN_len (l : List Nat) (j : Nat) : (padN l j).length = l.length + 1 + j := by simp [padN]; omega
theorem padN_ok {l : List Nat} (h : ∀ x ∈ l, x < 256) (j : Nat) : ∀ x ∈ padN l j, x < 256 := by
  intro x hx
  unfold padN at hx
  rcases List.mem_append.1 hx with h1 | h1
  · exact snoc_ok h x h1
  · have := List.eq_of_mem_replicate h1; omega
theorem padN_snoc (l : List Nat) (j : Nat) : bv (padN l j) ++ [.int .u8 0] = bv (padN l (j + 1)) := by
  unfold padN bv
  rw [List.replicate_succ']
  simp
set_option maxRecDepth 100000 in
set_option maxHeartbeats 1000000 in
theorem hbytesr_any (s : Hs) (A : Option Addr) (n c : Nat) (l : List Nat) (w : World) (hr : Rd w w.heap.size 1 A n (bv l)) (hn : n ≤ 900000000) (hb : ∀ x ∈ l, x < 256) :
    Calls Try.prog 85 #[.agg #[.int .u64 s.a, .int .u64 s.b, .int .u64 s.c, .int .u64 s.d], .slice A n c] w fun e w' => e = .returned (.agg #[.int .u64 (s.bytes l).a, .int .u64 (s.bytes l).b, .int .u64 (s.bytes l).c, .int .u64 (s.bytes l).d]) ∧ Below w.heap.size w w' := by
  obtain ⟨i0, hi, hz0, hz1, hz2⟩ := info_parts info_u8
  have HI := Lib.hid (And.intro hi (And.intro hz0 (And.intro hz1 hz2))); clear hi hz0 hz1 hz2
  have hl : l.length = n := by have := hr.1; rw [bv_len] at this; omega
  have Hr := Lib.hid hr; have Hb := Lib.hid hb; have Hl := Lib.hid hl
  clear hr hb hl
  have hw0 := World.ownsRow_made (base := w.heap.size + 2) (e := 5) (size := 1) ((w.alloc (.cells #[.int .u64 s.a, .int .u64 s.b, .int .u64 s.c, .int .u64 s.d] 141)).alloc (.cells #[.int .u64 0, .int .u64 0, .int .u64 0, .int .u64 0] 141)) #[] 0 (by simp) (by decide) rfl
  rw [show ((w.alloc (.cells #[.int .u64 s.a, .int .u64 s.b, .int .u64 s.c, .int .u64 s.d] 141)).alloc (.cells #[.int .u64 0, .int .u64 0, .int .u64 0, .int .u64 0] 141)).heap.size = w.heap.size + 2 by simp] at hw0
  have Hown0 := Lib.hid hw0
  have HS0 : Hid ((((w.alloc (.cells #[.int .u64 s.a, .int .u64 s.b, .int .u64 s.c, .int .u64 s.d] 141)).alloc (.cells #[.int .u64 0, .int .u64 0, .int .u64 0, .int .u64 0] 141)).alloc (.cells #[] 5)).heap[w.heap.size]? = some (.cells #[.int .u64 s.a, .int .u64 s.b, .int .u64 s.c, .int .u64 s.d] 141 (0, 0))) := Lib.hid (block_alloc (block_alloc (heap_alloc_new w _) _) _)
  have HT0 : Hid ((((w.alloc (.cells #[.int .u64 s.a, .int .u64 s.b, .int .u64 s.c, .int .u64 s.d] 141)).alloc (.cells #[.int .u64 0, .int .u64 0, .int .u64 0, .int .u64 0] 141)).alloc (.cells #[] 5)).heap[w.heap.size + 1]? = some (.cells #[.int .u64 0, .int .u64 0, .int .u64 0, .int .u64 0] 141 (0, 0))) := Lib.hid (block_alloc (h_at (by simp)) _)
  have Hb0 : Hid (Below w.heap.size w (((w.alloc (.cells #[.int .u64 s.a, .int .u64 s.b, .int .u64 s.c, .int .u64 s.d] 141)).alloc (.cells #[.int .u64 0, .int .u64 0, .int .u64 0, .int .u64 0] 141)).alloc (.cells #[] 5))) := Lib.hid ((h_two w _ _).alloc (by simp; omega) _)
  have Hr0 := Lib.hid (Hr.out.below Hb0.out (Nat.le_refl _))
  have hni : (n : Int) ≤ 900000000 := by omega
  clear hw0
  generalize hw : (((w.alloc (.cells #[.int .u64 s.a, .int .u64 s.b, .int .u64 s.c, .int .u64 s.d] 141)).alloc (.cells #[.int .u64 0, .int .u64 0, .int .u64 0, .int .u64 0] 141)).alloc (.cells #[] 5)) = w0 at *
  have Hw := Lib.hid hw
  clear hw
  have hz0 : w0.heap.size = w.heap.size + 1 + 1 + 1 := by rw [← Hw.out]; simp
  have Hz0 := Lib.hid hz0
  have hz1 : w.heap.size + 2 ≤ w0.heap.size := by omega
  clear hz0
  go_enter Try.func85, Try.ntmps85
  go_wp2_with (first
    | (at_builtin; rw [Hw.out]; go_must (refine wpList_append_rd w0 (by rfl) _ _ 64 (by rfl) (w.heap.size + 2) 5 i0 (.int .u8 0) 1 1 Try.underlying64 HI.out rfl (by decide) _ _ _ (by rfl) Hown0.out w.heap.size A n c (bv l) (by rfl) Hr0.out (bv_one l) (by omega) (by omega) (by omega) ?_); intro v1 w1 hown1 hb1; have Hown1 := Lib.hid hown1; have HS1 := Lib.hid (block_below HS0.out hb1 (by omega)); have HT1 := Lib.hid (block_below HT0.out hb1 (by omega)); have Hb1 := Lib.hid (Hb0.out.trans (hb1.mono (by omega))); have hsz1 := hb1.size; clear hown1 hb1)
    | (at_builtin; go_must (refine wpList_append_lit w1 (by rfl) _ _ 64 (by rfl) (w.heap.size + 2) 5 i0 (.int .u8 0) 1 1 Try.underlying64 HI.out rfl (by decide) _ _ _ (by rfl) Hown1.out 1 1 #[.int .u8 1] 5 (by rfl) rfl (by simp [Value.oneCell']) (by omega) (by omega) (by omega) ?_); intro v2 w2 hown2 hb2; have Hown2 := Lib.hid hown2; have HS2 := Lib.hid (block_below HS1.out hb2 (by omega)); have HT2 := Lib.hid (block_below HT1.out hb2 (by omega)); have Hb2 := Lib.hid (Hb1.out.trans (hb2.mono (by omega))); have hsz2 := hb2.size; clear hown2 hb2))
  obtain ⟨A2, c2, hv2⟩ := own_form Hown2.out
  subst hv2
  simp only [Nat.zero_add]
  have ho2 : w2.ownsRow (w.heap.size + 2) 5 1 (.slice A2 (n + 1) c2) (n + 1) (bv (padN l 0)) := by
    have := Hown2.out
    unfold padN; simpa [bv] using this
  have HO2 := Lib.hid ho2
  clear ho2 Hown2 Hown0 Hown1 HS0 HS1 HT0 HT1 Hb0 Hb1 Hr0
  have hsz3 : w.heap.size + 2 ≤ w2.heap.size := by omega
  clear hsz1 hsz2 hz1
  go_loopw [5] (fun v wr => ∃ (j m : Nat) (A' : Option Addr) (c' : Nat), v = .slice A' m c' ∧ Hid (m ≤ 8 * (n / 8 + 1)) ∧ Hid (w.heap.size + 2 ≤ wr.heap.size) ∧ Hid (m = n + 1 + j) ∧ Hid (wr.ownsRow (w.heap.size + 2) 5 1 (.slice A' m c') m (bv (padN l j))) ∧
    Hid (wr.heap[w.heap.size]? = some (.cells #[.int .u64 s.a, .int .u64 s.b, .int .u64 s.c, .int .u64 s.d] 141 (0, 0))) ∧ Hid (wr.heap[w.heap.size + 1]? = some (.cells #[.int .u64 0, .int .u64 0, .int .u64 0, .int .u64 0] 141 (0, 0))) ∧ Hid (Below w.heap.size w wr)) (fun v _ => 8 * (n / 8 + 1) - slLen v)
  case atStart => exact ⟨0, n + 1, A2, c2, rfl, Lib.hid (by omega), Lib.hid hsz3, Lib.hid rfl, HO2, HS2, HT2, Hb2⟩
  case round =>
    obtain ⟨j, m, A', c', rfl, HmM0, Hsz, Hm, HO, HS, HT, Hb'⟩ := hrel
    have hmM := HmM0.out; have hsz := Hsz.out
    have hmi : (m : Int) ≤ 1000000000 := by omega
    by_cases hm : m % 8 = 0
    · have hd : ((m : Int) % 8 != 0) = false := by simp; omega
      have hmM2 : m = 8 * (n / 8 + 1) := by have := Hm.out; omega
      have HmM := Lib.hid hmM2
      have Hm0 := Lib.hid hm
      clear hmM2 hm
      go_wp2
      obtain ⟨wo, rfl⟩ : ∃ wo : World, wo = wr := ⟨_, rfl⟩
      go_loopw [6] (fun i wr => ∃ (k i0 : Nat), i = .int .i64 (i0 : Int) ∧ Hid (i0 ≤ m) ∧ Hid (w.heap.size + 2 ≤ wr.heap.size) ∧ Hid (i0 = 8 * k) ∧ Hid (wr.ownsRow (w.heap.size + 2) 5 1 (.slice A' m c') m (bv (padN l j))) ∧
        Hid (wr.heap[w.heap.size]? = some (.cells #[.int .u64 (s.eat (padN l j) k).a, .int .u64 (s.eat (padN l j) k).b, .int .u64 (s.eat (padN l j) k).c, .int .u64 (s.eat (padN l j) k).d] 141 (0, 0))) ∧ Hid (wr.heap[w.heap.size + 1]? = some (.cells #[.int .u64 0, .int .u64 0, .int .u64 0, .int .u64 0] 141 (0, 0))) ∧ Hid (Below w.heap.size w wr)) (fun i _ => m - (intOf i).toNat)
      case atStart => exact ⟨0, 0, rfl, Lib.hid (by omega), Hsz, Lib.hid rfl, HO, HS, HT, Hb'⟩
      case round =>
        obtain ⟨k, i0', rfl, Hi0, Hsz4, Hi, HO4, HS4, HT4, Hb4⟩ := hrel
        have hi0 := Hi0.out; have hsz4 := Hsz4.out
        have HB4 := Lib.hid (free4 HS4.out)
        by_cases hlt : i0' < m
        · have hd2 : decide ((i0' : Int) < (m : Int)) = true := decide_eq_true (by omega)
          have hi8 : i0' + 8 ≤ m := by have := Hi.out; have := HmM.out; omega
          have hi8i : (i0' : Int) + 8 ≤ (m : Int) := by omega
          obtain ⟨b, rfl, hbb, hbl, hc8⟩ := own_at8 (x := padN l j) HO4.out hi8
          have c0 := hc8 0 (by omega); have c1 := hc8 1 (by omega); have c2 := hc8 2 (by omega); have c3 := hc8 3 (by omega); have c4 := hc8 4 (by omega); have c5 := hc8 5 (by omega); have c6 := hc8 6 (by omega); have c7 := hc8 7 (by omega)
          have Hchunk : Hid (chunk (padN l j) k = ⟨(padN l j).getD (i0' + 0) 0, (padN l j).getD (i0' + 1) 0, (padN l j).getD (i0' + 2) 0, (padN l j).getD (i0' + 3) 0, (padN l j).getD (i0' + 4) 0, (padN l j).getD (i0' + 5) 0, (padN l j).getD (i0' + 6) 0, (padN l j).getD (i0' + 7) 0⟩) := Lib.hid (by rw [Hi.out]; rfl)
          have Hok : Hid ((chunk (padN l j) k).ok) := Lib.hid (chunk_ok (padN_ok Hb.out j) k)
          have Heat : Hid (s.eat (padN l j) (k + 1) = (s.eat (padN l j) k).take ((chunk (padN l j) k).num : Int)) := Lib.hid rfl
          simp only [Nat.add_zero] at c0
          clear hc8
          generalize (padN l j).getD (i0' + 0) 0 = x0 at *
          generalize (padN l j).getD (i0' + 1) 0 = x1 at *
          generalize (padN l j).getD (i0' + 2) 0 = x2 at *
          generalize (padN l j).getD (i0' + 3) 0 = x3 at *
          generalize (padN l j).getD (i0' + 4) 0 = x4 at *
          generalize (padN l j).getD (i0' + 5) 0 = x5 at *
          generalize (padN l j).getD (i0' + 6) 0 = x6 at *
          generalize (padN l j).getD (i0' + 7) 0 = x7 at *
          go_wp2
          refine wp_loop_rounds 9 ?_
          iterate 8 (rw [rounds_succ]; go_wp2)
          have hS5 := block_alloc HS4.out (.cells #[.int .u8 ((D8.mk x0 x1 x2 x3 x4 x5 x6 x7).x0 : Int), .int .u8 ((D8.mk x0 x1 x2 x3 x4 x5 x6 x7).x1 : Int), .int .u8 ((D8.mk x0 x1 x2 x3 x4 x5 x6 x7).x2 : Int), .int .u8 ((D8.mk x0 x1 x2 x3 x4 x5 x6 x7).x3 : Int), .int .u8 ((D8.mk x0 x1 x2 x3 x4 x5 x6 x7).x4 : Int), .int .u8 ((D8.mk x0 x1 x2 x3 x4 x5 x6 x7).x5 : Int), .int .u8 ((D8.mk x0 x1 x2 x3 x4 x5 x6 x7).x6 : Int), .int .u8 ((D8.mk x0 x1 x2 x3 x4 x5 x6 x7).x7 : Int)] 22)
          have hT5 := block_alloc HT4.out (.cells #[.int .u8 ((D8.mk x0 x1 x2 x3 x4 x5 x6 x7).x0 : Int), .int .u8 ((D8.mk x0 x1 x2 x3 x4 x5 x6 x7).x1 : Int), .int .u8 ((D8.mk x0 x1 x2 x3 x4 x5 x6 x7).x2 : Int), .int .u8 ((D8.mk x0 x1 x2 x3 x4 x5 x6 x7).x3 : Int), .int .u8 ((D8.mk x0 x1 x2 x3 x4 x5 x6 x7).x4 : Int), .int .u8 ((D8.mk x0 x1 x2 x3 x4 x5 x6 x7).x5 : Int), .int .u8 ((D8.mk x0 x1 x2 x3 x4 x5 x6 x7).x6 : Int), .int .u8 ((D8.mk x0 x1 x2 x3 x4 x5 x6 x7).x7 : Int)] 22)
          have hD5 := heap_alloc_new wr (.cells #[.int .u8 ((D8.mk x0 x1 x2 x3 x4 x5 x6 x7).x0 : Int), .int .u8 ((D8.mk x0 x1 x2 x3 x4 x5 x6 x7).x1 : Int), .int .u8 ((D8.mk x0 x1 x2 x3 x4 x5 x6 x7).x2 : Int), .int .u8 ((D8.mk x0 x1 x2 x3 x4 x5 x6 x7).x3 : Int), .int .u8 ((D8.mk x0 x1 x2 x3 x4 x5 x6 x7).x4 : Int), .int .u8 ((D8.mk x0 x1 x2 x3 x4 x5 x6 x7).x5 : Int), .int .u8 ((D8.mk x0 x1 x2 x3 x4 x5 x6 x7).x6 : Int), .int .u8 ((D8.mk x0 x1 x2 x3 x4 x5 x6 x7).x7 : Int)] 22)
          have hO5 := HO4.out.alloc (.cells #[.int .u8 ((D8.mk x0 x1 x2 x3 x4 x5 x6 x7).x0 : Int), .int .u8 ((D8.mk x0 x1 x2 x3 x4 x5 x6 x7).x1 : Int), .int .u8 ((D8.mk x0 x1 x2 x3 x4 x5 x6 x7).x2 : Int), .int .u8 ((D8.mk x0 x1 x2 x3 x4 x5 x6 x7).x3 : Int), .int .u8 ((D8.mk x0 x1 x2 x3 x4 x5 x6 x7).x4 : Int), .int .u8 ((D8.mk x0 x1 x2 x3 x4 x5 x6 x7).x5 : Int), .int .u8 ((D8.mk x0 x1 x2 x3 x4 x5 x6 x7).x6 : Int), .int .u8 ((D8.mk x0 x1 x2 x3 x4 x5 x6 x7).x7 : Int)] 22)
          have hb5 := Hb4.out.alloc (by omega) (.cells #[.int .u8 ((D8.mk x0 x1 x2 x3 x4 x5 x6 x7).x0 : Int), .int .u8 ((D8.mk x0 x1 x2 x3 x4 x5 x6 x7).x1 : Int), .int .u8 ((D8.mk x0 x1 x2 x3 x4 x5 x6 x7).x2 : Int), .int .u8 ((D8.mk x0 x1 x2 x3 x4 x5 x6 x7).x3 : Int), .int .u8 ((D8.mk x0 x1 x2 x3 x4 x5 x6 x7).x4 : Int), .int .u8 ((D8.mk x0 x1 x2 x3 x4 x5 x6 x7).x5 : Int), .int .u8 ((D8.mk x0 x1 x2 x3 x4 x5 x6 x7).x6 : Int), .int .u8 ((D8.mk x0 x1 x2 x3 x4 x5 x6 x7).x7 : Int)] 22)
          have hsz5 : w.heap.size + 2 ≤ (wr.alloc (.cells #[.int .u8 ((D8.mk x0 x1 x2 x3 x4 x5 x6 x7).x0 : Int), .int .u8 ((D8.mk x0 x1 x2 x3 x4 x5 x6 x7).x1 : Int), .int .u8 ((D8.mk x0 x1 x2 x3 x4 x5 x6 x7).x2 : Int), .int .u8 ((D8.mk x0 x1 x2 x3 x4 x5 x6 x7).x3 : Int), .int .u8 ((D8.mk x0 x1 x2 x3 x4 x5 x6 x7).x4 : Int), .int .u8 ((D8.mk x0 x1 x2 x3 x4 x5 x6 x7).x5 : Int), .int .u8 ((D8.mk x0 x1 x2 x3 x4 x5 x6 x7).x6 : Int), .int .u8 ((D8.mk x0 x1 x2 x3 x4 x5 x6 x7).x7 : Int)] 22)).heap.size := by simp; omega
          simp only at hS5 hT5 hD5 hO5 hb5 hsz5
          generalize wr.alloc (.cells #[.int .u8 (x0 : Int), .int .u8 (x1 : Int), .int .u8 (x2 : Int), .int .u8 (x3 : Int), .int .u8 (x4 : Int), .int .u8 (x5 : Int), .int .u8 (x6 : Int), .int .u8 (x7 : Int)] 22) = w5 at *
          obtain ⟨sf, s0, s1, s2, s3⟩ := free4 hS5
          obtain ⟨zf, r0, r1, r2, r3, r4, r5, r6, r7⟩ := free8 hD5
          have HD5 := Lib.hid hD5
          have HS5 := Lib.hid hS5; have HT5 := Lib.hid hT5; have HO5 := Lib.hid hO5; have Hb5 := Lib.hid hb5
          clear hS5 hT5 hD5 hO5 hb5 c0 c1 c2 c3 c4 c5 c6 c7
          have Hg5 : Hid (wr.heap.size < w5.heap.size) := Lib.hid (block_lt HD5.out)
          generalize wr.heap.size = g5 at *
          generalize hq : s.eat (padN l j) k = q at *
          have Hq := Lib.hid hq
          clear hq
          rw [rounds_succ]
          go_wp2
          have Hb5d := Lib.hid Hb5.out.drew
          clear r0 r1 r2 r3 r4 r5 r6 r7 zf s0 s1 s2 s3 sf
          refine wp_region_held_drew (S := fun _ => True) (by kernel_rfl) trivial (fun _ => ?_)
          have HE : ∀ w9 : World, Hid (w9.heap[w.heap.size]? = some (.cells #[.int .u64 (s.eat (padN l j) (k + 1)).a, .int .u64 (s.eat (padN l j) (k + 1)).b, .int .u64 (s.eat (padN l j) (k + 1)).c, .int .u64 (s.eat (padN l j) (k + 1)).d] 141 (0, 0))) → Hid (w9.heap[w.heap.size + 1]? = some (.cells #[.int .u64 0, .int .u64 0, .int .u64 0, .int .u64 0] 141 (0, 0))) → Hid (w9.ownsRow (w.heap.size + 2) 5 1 (.slice (some ⟨b, 0, none⟩) m c') m (bv (padN l j))) → Hid (Below w.heap.size w w9) → Hid (w.heap.size + 2 ≤ w9.heap.size) → True := fun _ _ _ _ _ _ => trivial
          refine wpAnyH_ready (rs := [0, 1]) (by kernel_rfl) (by simp) ?_
          refine AllReadyH.cons rfl (fun K hK => ?_) (AllReadyH.cons rfl (fun K hK => ?_) AllReadyH.nil)
          ·
            have ⟨sf, s0, s1, s2, s3⟩ := free4 HS5.out
            rw [if_pos (by kernel_rfl)]
            go_simp
            refine hK.out _ _ trivial (fun _ => ?_)
            clear hK K
            clear sf s0 s1 s2 s3
            refine wpAnyH_ready (rs := [1]) (by kernel_rfl) (by simp) ?_
            refine AllReadyH.cons rfl (fun K hK => ?_) AllReadyH.nil
            have ⟨zf, r0, r1, r2, r3, r4, r5, r6, r7⟩ := free8 HD5.out
            rw [if_pos (by kernel_rfl)]
            go_simp
            refine hK.out _ _ trivial (fun _ => ?_)
            clear hK K
            clear zf r0 r1 r2 r3 r4 r5 r6 r7
            refine wpAnyH_ready (rs := [2]) (by kernel_rfl) (by simp) ?_
            refine AllReadyH.cons rfl (fun K hK => ?_) AllReadyH.nil
            rw [if_pos (by kernel_rfl)]
            go_simp
            refine (rnum_any (D8.mk x0 x1 x2 x3 x4 x5 x6 x7) _ (by rw [← Hchunk.out]; exact Hok.out)).mono ?_
            rintro e w6 ⟨rfl, hb6d⟩
            have hb6 : Below w5.heap.size w5 w6 := ⟨hb6d.os, hb6d.tape, hb6d.output, hb6d.size, hb6d.block⟩
            rw [← Hchunk.out]
            have HS6 := Lib.hid (block_below HS5.out hb6 (block_lt HS5.out)); have HT6 := Lib.hid (block_below HT5.out hb6 (block_lt HT5.out))
            have HO6 := Lib.hid (own_below HO5.out hb6); have Hb6 := Lib.hid (Hb5.out.trans (hb6.mono (by omega)))
            have hsz6 := hb6.size
            clear hb6 hb6d
            refine hK.out _ _ trivial (fun _ => ?_)
            clear hK K
            refine wpAnyH_ready (rs := [3]) (by kernel_rfl) (by simp) ?_
            refine AllReadyH.cons rfl (fun K hK => ?_) AllReadyH.nil
            rw [if_pos (by kernel_rfl)]
            go_simp
            refine (in_any q _ _).mono ?_
            rintro e w7 ⟨rfl, hb7⟩
            rw [← Heat.out]
            have HS7 := Lib.hid (block_below HS6.out hb7 (block_lt HS6.out)); have HT7 := Lib.hid (block_below HT6.out hb7 (block_lt HT6.out))
            have HO7 := Lib.hid (own_below HO6.out hb7); have Hb7 := Lib.hid (Hb6.out.trans (hb7.mono (by omega)))
            have hsz7 := hb7.size
            clear hb7
            refine hK.out _ _ trivial (fun _ => ?_)
            clear hK K
            refine wpAnyH_ready (rs := [4]) (by kernel_rfl) (by simp) ?_
            refine AllReadyH.cons rfl (fun K hK => ?_) AllReadyH.nil
            obtain ⟨sf, s0, s1, s2, s3⟩ := free4 HS7.out
            generalize hq2 : s.eat (padN l j) (k + 1) = q2 at *
            have Hq2 := Lib.hid hq2
            clear hq2
            rw [if_pos (by kernel_rfl)]
            go_simp
            clear s0 s1 s2 s3 sf
            have h9 := set4 HS7.out (.int .u64 q2.a) (.int .u64 q2.b) (.int .u64 q2.c) (.int .u64 q2.d)
            have hg9 := grown_set4 w7 w.heap.size (.int .u64 q2.a) (.int .u64 q2.b) (.int .u64 q2.c) (.int .u64 q2.d)
            generalize (((w7.setCell ⟨w.heap.size, 0, none⟩ (.int .u64 q2.a)).setCell ⟨w.heap.size, 1, none⟩ (.int .u64 q2.b)).setCell ⟨w.heap.size, 2, none⟩ (.int .u64 q2.c)).setCell ⟨w.heap.size, 3, none⟩ (.int .u64 q2.d) = w9 at *
            have HS9 := Lib.hid h9
            have HT9 := Lib.hid (block_grown HT7.out hg9 (by simp))
            have HO9 := Lib.hid (HO7.out.kept hg9 (.inr (by simp only [Value.ownBlock, ne_eq, Option.some.injEq]; omega)))
            have Hb9 := Lib.hid (Hb7.out.grown hg9 Hb7.out.size (fun k hk => by injection hk with hk; omega))
            have Hsz9 : Hid (w.heap.size + 2 ≤ w9.heap.size) := Lib.hid (by have := hg9.size; omega)
            clear h9 hg9
            refine hK.out _ _ trivial (fun _ => ?_)
            clear hK K
            refine wpAnyH_done (by kernel_rfl) ?_ _
            go_wp2
            go_roundw
            case rel =>
              exact ⟨k + 1, i0' + 8, by go_num, Lib.hid hi8, Hsz9, Lib.hid (by rw [Hi.out]; omega), HO9, by rw [Hq2.out]; exact HS9, HT9, Hb9⟩
            case measure => simp [intOf]; omega
          ·
            have ⟨zf, r0, r1, r2, r3, r4, r5, r6, r7⟩ := free8 HD5.out
            rw [if_pos (by kernel_rfl)]
            go_simp
            refine hK.out _ _ trivial (fun _ => ?_)
            clear hK K
            clear zf r0 r1 r2 r3 r4 r5 r6 r7
            refine wpAnyH_ready (rs := [0, 2]) (by kernel_rfl) (by simp) ?_
            refine AllReadyH.cons rfl (fun K hK => ?_) (AllReadyH.cons rfl (fun K hK => ?_) AllReadyH.nil)
            ·
              have ⟨sf, s0, s1, s2, s3⟩ := free4 HS5.out
              rw [if_pos (by kernel_rfl)]
              go_simp
              refine hK.out _ _ trivial (fun _ => ?_)
              clear hK K
              clear sf s0 s1 s2 s3
              refine wpAnyH_ready (rs := [2]) (by kernel_rfl) (by simp) ?_
              refine AllReadyH.cons rfl (fun K hK => ?_) AllReadyH.nil
              rw [if_pos (by kernel_rfl)]
              go_simp
              refine (rnum_any (D8.mk x0 x1 x2 x3 x4 x5 x6 x7) _ (by rw [← Hchunk.out]; exact Hok.out)).mono ?_
              rintro e w6 ⟨rfl, hb6d⟩
              have hb6 : Below w5.heap.size w5 w6 := ⟨hb6d.os, hb6d.tape, hb6d.output, hb6d.size, hb6d.block⟩
              rw [← Hchunk.out]
              have HS6 := Lib.hid (block_below HS5.out hb6 (block_lt HS5.out)); have HT6 := Lib.hid (block_below HT5.out hb6 (block_lt HT5.out))
              have HO6 := Lib.hid (own_below HO5.out hb6); have Hb6 := Lib.hid (Hb5.out.trans (hb6.mono (by omega)))
              have hsz6 := hb6.size
              clear hb6 hb6d
              refine hK.out _ _ trivial (fun _ => ?_)
              clear hK K
              refine wpAnyH_ready (rs := [3]) (by kernel_rfl) (by simp) ?_
              refine AllReadyH.cons rfl (fun K hK => ?_) AllReadyH.nil
              rw [if_pos (by kernel_rfl)]
              go_simp
              refine (in_any q _ _).mono ?_
              rintro e w7 ⟨rfl, hb7⟩
              rw [← Heat.out]
              have HS7 := Lib.hid (block_below HS6.out hb7 (block_lt HS6.out)); have HT7 := Lib.hid (block_below HT6.out hb7 (block_lt HT6.out))
              have HO7 := Lib.hid (own_below HO6.out hb7); have Hb7 := Lib.hid (Hb6.out.trans (hb7.mono (by omega)))
              have hsz7 := hb7.size
              clear hb7
              refine hK.out _ _ trivial (fun _ => ?_)
              clear hK K
              refine wpAnyH_ready (rs := [4]) (by kernel_rfl) (by simp) ?_
              refine AllReadyH.cons rfl (fun K hK => ?_) AllReadyH.nil
              obtain ⟨sf, s0, s1, s2, s3⟩ := free4 HS7.out
              generalize hq2 : s.eat (padN l j) (k + 1) = q2 at *
              have Hq2 := Lib.hid hq2
              clear hq2
              rw [if_pos (by kernel_rfl)]
              go_simp
              clear s0 s1 s2 s3 sf
              have h9 := set4 HS7.out (.int .u64 q2.a) (.int .u64 q2.b) (.int .u64 q2.c) (.int .u64 q2.d)
              have hg9 := grown_set4 w7 w.heap.size (.int .u64 q2.a) (.int .u64 q2.b) (.int .u64 q2.c) (.int .u64 q2.d)
              generalize (((w7.setCell ⟨w.heap.size, 0, none⟩ (.int .u64 q2.a)).setCell ⟨w.heap.size, 1, none⟩ (.int .u64 q2.b)).setCell ⟨w.heap.size, 2, none⟩ (.int .u64 q2.c)).setCell ⟨w.heap.size, 3, none⟩ (.int .u64 q2.d) = w9 at *
              have HS9 := Lib.hid h9
              have HT9 := Lib.hid (block_grown HT7.out hg9 (by simp))
              have HO9 := Lib.hid (HO7.out.kept hg9 (.inr (by simp only [Value.ownBlock, ne_eq, Option.some.injEq]; omega)))
              have Hb9 := Lib.hid (Hb7.out.grown hg9 Hb7.out.size (fun k hk => by injection hk with hk; omega))
              have Hsz9 : Hid (w.heap.size + 2 ≤ w9.heap.size) := Lib.hid (by have := hg9.size; omega)
              clear h9 hg9
              refine hK.out _ _ trivial (fun _ => ?_)
              clear hK K
              refine wpAnyH_done (by kernel_rfl) ?_ _
              go_wp2
              go_roundw
              case rel =>
                exact ⟨k + 1, i0' + 8, by go_num, Lib.hid hi8, Hsz9, Lib.hid (by rw [Hi.out]; omega), HO9, by rw [Hq2.out]; exact HS9, HT9, Hb9⟩
              case measure => simp [intOf]; omega
            ·
              rw [if_pos (by kernel_rfl)]
              go_simp
              refine (rnum_any (D8.mk x0 x1 x2 x3 x4 x5 x6 x7) _ (by rw [← Hchunk.out]; exact Hok.out)).mono ?_
              rintro e w6 ⟨rfl, hb6d⟩
              have hb6 : Below w5.heap.size w5 w6 := ⟨hb6d.os, hb6d.tape, hb6d.output, hb6d.size, hb6d.block⟩
              rw [← Hchunk.out]
              have HS6 := Lib.hid (block_below HS5.out hb6 (block_lt HS5.out)); have HT6 := Lib.hid (block_below HT5.out hb6 (block_lt HT5.out))
              have HO6 := Lib.hid (own_below HO5.out hb6); have Hb6 := Lib.hid (Hb5.out.trans (hb6.mono (by omega)))
              have hsz6 := hb6.size
              clear hb6 hb6d
              refine hK.out _ _ trivial (fun _ => ?_)
              clear hK K
              refine wpAnyH_ready (rs := [0]) (by kernel_rfl) (by simp) ?_
              refine AllReadyH.cons rfl (fun K hK => ?_) AllReadyH.nil
              have ⟨sf, s0, s1, s2, s3⟩ := free4 HS6.out
              rw [if_pos (by kernel_rfl)]
              go_simp
              refine hK.out _ _ trivial (fun _ => ?_)
              clear hK K
              clear sf s0 s1 s2 s3
              refine wpAnyH_ready (rs := [3]) (by kernel_rfl) (by simp) ?_
              refine AllReadyH.cons rfl (fun K hK => ?_) AllReadyH.nil
              rw [if_pos (by kernel_rfl)]
              go_simp
              refine (in_any q _ _).mono ?_
              rintro e w7 ⟨rfl, hb7⟩
              rw [← Heat.out]
              have HS7 := Lib.hid (block_below HS6.out hb7 (block_lt HS6.out)); have HT7 := Lib.hid (block_below HT6.out hb7 (block_lt HT6.out))
              have HO7 := Lib.hid (own_below HO6.out hb7); have Hb7 := Lib.hid (Hb6.out.trans (hb7.mono (by omega)))
              have hsz7 := hb7.size
              clear hb7
              refine hK.out _ _ trivial (fun _ => ?_)
              clear hK K
              refine wpAnyH_ready (rs := [4]) (by kernel_rfl) (by simp) ?_
              refine AllReadyH.cons rfl (fun K hK => ?_) AllReadyH.nil
              obtain ⟨sf, s0, s1, s2, s3⟩ := free4 HS7.out
              generalize hq2 : s.eat (padN l j) (k + 1) = q2 at *
              have Hq2 := Lib.hid hq2
              clear hq2
              rw [if_pos (by kernel_rfl)]
              go_simp
              clear s0 s1 s2 s3 sf
              have h9 := set4 HS7.out (.int .u64 q2.a) (.int .u64 q2.b) (.int .u64 q2.c) (.int .u64 q2.d)
              have hg9 := grown_set4 w7 w.heap.size (.int .u64 q2.a) (.int .u64 q2.b) (.int .u64 q2.c) (.int .u64 q2.d)
              generalize (((w7.setCell ⟨w.heap.size, 0, none⟩ (.int .u64 q2.a)).setCell ⟨w.heap.size, 1, none⟩ (.int .u64 q2.b)).setCell ⟨w.heap.size, 2, none⟩ (.int .u64 q2.c)).setCell ⟨w.heap.size, 3, none⟩ (.int .u64 q2.d) = w9 at *
              have HS9 := Lib.hid h9
              have HT9 := Lib.hid (block_grown HT7.out hg9 (by simp))
              have HO9 := Lib.hid (HO7.out.kept hg9 (.inr (by simp only [Value.ownBlock, ne_eq, Option.some.injEq]; omega)))
              have Hb9 := Lib.hid (Hb7.out.grown hg9 Hb7.out.size (fun k hk => by injection hk with hk; omega))
              have Hsz9 : Hid (w.heap.size + 2 ≤ w9.heap.size) := Lib.hid (by have := hg9.size; omega)
              clear h9 hg9
              refine hK.out _ _ trivial (fun _ => ?_)
              clear hK K
              refine wpAnyH_done (by kernel_rfl) ?_ _
              go_wp2
              go_roundw
              case rel =>
                exact ⟨k + 1, i0' + 8, by go_num, Lib.hid hi8, Hsz9, Lib.hid (by rw [Hi.out]; omega), HO9, by rw [Hq2.out]; exact HS9, HT9, Hb9⟩
              case measure => simp [intOf]; omega
        · have hd2 : decide ((i0' : Int) < (m : Int)) = false := decide_eq_false (by omega)
          obtain ⟨sf, s0, s1, s2, s3⟩ := free4 HS4.out
          have Hfin : Hid ((s.eat (padN l j) k).take (n : Int) = s.bytes l) := Lib.hid (by
            have : k = n / 8 + 1 := by have := Hi.out; have := HmM.out; omega
            subst this
            unfold padN
            rw [eat_zeros]
            unfold Hs.bytes
            rw [Hl.out])
          generalize s.eat (padN l j) k = q at *
          go_wp2_with fail
          refine (in_any q _ _).mono ?_
          rintro e w7 ⟨rfl, hb7⟩
          rw [Hfin.out]
          have HT7 := Lib.hid (block_below HT4.out hb7 (block_lt HT4.out))
          have Hb7 := Lib.hid (Hb4.out.trans (hb7.mono (by omega)))
          have hsz7 := hb7.size
          clear hb7 s0 s1 s2 s3 sf
          generalize hq2 : s.bytes l = q2 at *
          have Hq2 := Lib.hid hq2
          clear hq2
          obtain ⟨sf, s0, s1, s2, s3⟩ := free4 HT7.out
          go_wp2
          clear s0 s1 s2 s3 sf
          have h9 := set4 HT7.out (.int .u64 q2.a) (.int .u64 q2.b) (.int .u64 q2.c) (.int .u64 q2.d)
          have hg9 := grown_set4 w7 (w.heap.size + 1) (.int .u64 q2.a) (.int .u64 q2.b) (.int .u64 q2.c) (.int .u64 q2.d)
          generalize (((w7.setCell ⟨w.heap.size + 1, 0, none⟩ (.int .u64 q2.a)).setCell ⟨w.heap.size + 1, 1, none⟩ (.int .u64 q2.b)).setCell ⟨w.heap.size + 1, 2, none⟩ (.int .u64 q2.c)).setCell ⟨w.heap.size + 1, 3, none⟩ (.int .u64 q2.d) = w9 at *
          obtain ⟨sf, s0, s1, s2, s3⟩ := free4 h9
          have Hb9 := Lib.hid (Hb7.out.grown hg9 Hb7.out.size (fun k hk => by injection hk with hk; omega))
          clear h9 hg9
          refine bodyPost_ret (v := .agg #[.int .u64 q2.a, .int .u64 q2.b, .int .u64 q2.c, .int .u64 q2.d]) (by simp [results, Try.results85, go_sem, s0, s1, s2, s3]) rfl ⟨by rw [Hq2.out], Hb9.out⟩
    · have hd : ((m : Int) % 8 != 0) = true := by simp; omega
      have hm7 : m + 1 ≤ 8 * (n / 8 + 1) := by omega
      go_wp2_with (at_builtin; go_must (refine wpList_append_lit wr (by rfl) _ _ 64 (by rfl) (w.heap.size + 2) 5 i0 (.int .u8 0) 1 1 Try.underlying64 HI.out rfl (by decide) _ _ _ (by rfl) HO.out 1 1 #[.int .u8 0] 5 (by rfl) rfl (by simp [Value.oneCell']) (by omega) (by omega) (by omega) ?_); intro v4 w4 hown4 hb4; have Hown4 := Lib.hid hown4; have HS4 := Lib.hid (block_below HS.out hb4 (by omega)); have HT4 := Lib.hid (block_below HT.out hb4 (by omega)); have Hb4 := Lib.hid (Hb'.out.trans (hb4.mono (by omega))); have hsz4 := hb4.size; clear hown4 hb4)
      obtain ⟨A4, c4, rfl⟩ := own_form Hown4.out
      go_roundw
      case rel =>
        exact ⟨j + 1, m + 1, A4, c4, rfl, Lib.hid hm7, Lib.hid (by omega), Lib.hid (by rw [Hm.out]; omega), (by have := Hown4.out; rw [padN_snoc] at this; exact Lib.hid this), HS4, HT4, Hb4⟩
      case measure => simp [slLen]; omega
set_option maxRecDepth 100000 in
theorem ofr_any (A : Option Addr) (n c : Nat) (l : List Nat) (w : World) (hr : Rd w w.heap.size 1 A n (bv l)) (hn : n ≤ 900000000) (hb : ∀ x ∈ l, x < 256) :
    Calls Try.prog 64 #[.slice A n c] w fun e w' => e = .returned (.agg #[.int .u8 ((hashOf l).x0 : Int), .int .u8 ((hashOf l).x1 : Int), .int .u8 ((hashOf l).x2 : Int), .int .u8 ((hashOf l).x3 : Int), .int .u8 ((hashOf l).x4 : Int), .int .u8 ((hashOf l).x5 : Int), .int .u8 ((hashOf l).x6 : Int), .int .u8 ((hashOf l).x7 : Int)]) ∧ Below w.heap.size w w' := by
  have Hr := Lib.hid hr; have Hb := Lib.hid hb
  clear hr hb
  have HX : Hid ((w.alloc (.cells #[.int .u8 0, .int .u8 0, .int .u8 0, .int .u8 0, .int .u8 0, .int .u8 0, .int .u8 0, .int .u8 0] 22)).heap[w.heap.size]? = some (.cells #[.int .u8 0, .int .u8 0, .int .u8 0, .int .u8 0, .int .u8 0, .int .u8 0, .int .u8 0, .int .u8 0] 22 (0, 0))) := heap_alloc_new w _
  go_enter Try.func64, Try.ntmps64
  go_wp2_with fail
  refine (beginr_any 1 _).mono ?_
  rintro e w1 ⟨rfl, hb1⟩
  have Hbx1 := Lib.hid (block_below HX.out hb1 (by simp))
  have Hb1 := Lib.hid ((h_one w (.cells #[.int .u8 0, .int .u8 0, .int .u8 0, .int .u8 0, .int .u8 0, .int .u8 0, .int .u8 0, .int .u8 0] 22)).trans (hb1.mono (by simp)))
  have hsz1 := hb1.size
  simp at hsz1
  clear hb1
  generalize hs0 : Hs.begin 1 = s0 at *
  have Hs0 := Lib.hid hs0
  clear hs0
  go_wp2_with fail
  refine (hbytesr_any s0 A n c l w1 ((Hr.out.below Hb1.out (Nat.le_refl _)).more Hb1.out.size) hn Hb.out).mono ?_
  rintro e w3 ⟨rfl, hb3⟩
  have Hb3 := Lib.hid (Hb1.out.trans (hb3.mono Hb1.out.size))
  have Hbx3 := Lib.hid (block_below Hbx1.out hb3 (block_lt Hbx1.out))
  have hsz3 := hb3.size
  clear hb3
  go_wp2_with fail
  refine (outr_any (s0.bytes l) _).mono ?_
  rintro e w4 ⟨rfl, hb4⟩
  have hbx4 := block_below Hbx3.out hb4 (block_lt Hbx3.out)
  obtain ⟨zf, r0, r1, r2, r3, r4, r5, r6, r7⟩ := free8 hbx4
  have Hbx := Lib.hid hbx4
  have Hbw := Lib.hid (Hb3.out.trans (hb4.mono Hb3.out.size))
  clear hb4 hbx4
  have Hout : Hid ((s0.bytes l).out = hashOf l) := Lib.hid (by rw [← Hs0.out]; rfl)
  generalize (s0.bytes l).out = d at *
  go_wp2
  clear zf r0 r1 r2 r3 r4 r5 r6 r7
  have h8 := set8 Hbx.out (.int .u8 (d.x0 : Int)) (.int .u8 (d.x1 : Int)) (.int .u8 (d.x2 : Int)) (.int .u8 (d.x3 : Int)) (.int .u8 (d.x4 : Int)) (.int .u8 (d.x5 : Int)) (.int .u8 (d.x6 : Int)) (.int .u8 (d.x7 : Int))
  have hg8 := grown_set8 w4 (w.heap.size) (.int .u8 (d.x0 : Int)) (.int .u8 (d.x1 : Int)) (.int .u8 (d.x2 : Int)) (.int .u8 (d.x3 : Int)) (.int .u8 (d.x4 : Int)) (.int .u8 (d.x5 : Int)) (.int .u8 (d.x6 : Int)) (.int .u8 (d.x7 : Int))
  generalize ((((((((w4.setCell ⟨w.heap.size, 0, none⟩ (.int .u8 (d.x0 : Int))).setCell ⟨w.heap.size, 1, none⟩ (.int .u8 (d.x1 : Int))).setCell ⟨w.heap.size, 2, none⟩ (.int .u8 (d.x2 : Int))).setCell ⟨w.heap.size, 3, none⟩ (.int .u8 (d.x3 : Int))).setCell ⟨w.heap.size, 4, none⟩ (.int .u8 (d.x4 : Int))).setCell ⟨w.heap.size, 5, none⟩ (.int .u8 (d.x5 : Int))).setCell ⟨w.heap.size, 6, none⟩ (.int .u8 (d.x6 : Int))).setCell ⟨w.heap.size, 7, none⟩ (.int .u8 (d.x7 : Int))) = w5 at *
  obtain ⟨zf, r0, r1, r2, r3, r4, r5, r6, r7⟩ := free8 h8
  have Hb2 := Lib.hid (Hbw.out.grown hg8 Hbw.out.size (fun k hk => by injection hk with hk; omega))
  clear h8 hg8
  refine bodyPost_ret (v := .agg #[.int .u8 (d.x0 : Int), .int .u8 (d.x1 : Int), .int .u8 (d.x2 : Int), .int .u8 (d.x3 : Int), .int .u8 (d.x4 : Int), .int .u8 (d.x5 : Int), .int .u8 (d.x6 : Int), .int .u8 (d.x7 : Int)]) (by simp [results, Try.results64, go_sem, r0, r1, r2, r3, r4, r5, r6, r7]) rfl ⟨by rw [Hout.out], Hb2.out⟩
end Go.Proofs.Ytjiecnoplnaahaa
