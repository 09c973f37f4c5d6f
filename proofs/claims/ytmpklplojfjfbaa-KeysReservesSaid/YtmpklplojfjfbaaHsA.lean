/- The hash's rounds: the plain words, and the walks of RotateLeft64, left, stir, Stir. Condition: none. -/
import Derived.Test.YtmpklplojfjfbaaWords
import Derived.Test.YtmpklplojfjfbaaProg
import Derived.Laws.BitsAll
import Derived.WalkLawsBesides
import Derived.RegionTactic
import Derived.Lib.SmallJoins
namespace Go.Proofs.Ytmpklplojfjfbaa
open Go.RowKit Go.Lib
def rot32 (x : Int) : Int := bits .or .u64 (IntKind.u64.wrap (x * 4294967296)) (x / 4294967296)
theorem rot32_any (x : Int) (w : World) : Calls Try.prog 92 #[.int .u64 x, .int .i64 32] w fun e w' => e = .returned (.int .u64 (rot32 x)) ∧ w = w' := by
  have h : bits .and .u64 32 63 = 32 := by decide
  go_enter Try.func92, Try.ntmps92
  go_wp2
  go_ret
  exact ⟨rfl, rfl⟩
def rot24 (x : Int) : Int := bits .or .u64 (IntKind.u64.wrap (x * 16777216)) (x / 1099511627776)
theorem rot24_any (x : Int) (w : World) : Calls Try.prog 92 #[.int .u64 x, .int .i64 24] w fun e w' => e = .returned (.int .u64 (rot24 x)) ∧ w = w' := by
  have h : bits .and .u64 24 63 = 24 := by decide
  go_enter Try.func92, Try.ntmps92
  go_wp2
  go_ret
  exact ⟨rfl, rfl⟩
def rot16 (x : Int) : Int := bits .or .u64 (IntKind.u64.wrap (x * 65536)) (x / 281474976710656)
theorem rot16_any (x : Int) (w : World) : Calls Try.prog 92 #[.int .u64 x, .int .i64 16] w fun e w' => e = .returned (.int .u64 (rot16 x)) ∧ w = w' := by
  have h : bits .and .u64 16 63 = 16 := by decide
  go_enter Try.func92, Try.ntmps92
  go_wp2
  go_ret
  exact ⟨rfl, rfl⟩
def rot63 (x : Int) : Int := bits .or .u64 (IntKind.u64.wrap (x * 9223372036854775808)) (x / 2)
theorem rot63_any (x : Int) (w : World) : Calls Try.prog 92 #[.int .u64 x, .int .i64 63] w fun e w' => e = .returned (.int .u64 (rot63 x)) ∧ w = w' := by
  have h : bits .and .u64 63 63 = 63 := by decide
  go_enter Try.func92, Try.ntmps92
  go_wp2
  go_ret
  exact ⟨rfl, rfl⟩
structure Hs where
  a : Int
  b : Int
  c : Int
  d : Int
def Hs.a1 (s : Hs) (i : Int) : Int := bits .xor .u64 (IntKind.u64.wrap (s.a + s.b)) i
def Hs.d1 (s : Hs) (i : Int) : Int := rot32 (bits .xor .u64 s.d (s.a1 i))
def Hs.c1 (s : Hs) (i : Int) : Int := IntKind.u64.wrap (s.c + s.d1 i)
def Hs.b1 (s : Hs) (i : Int) : Int := rot24 (bits .xor .u64 s.b (s.c1 i))
def Hs.a2 (s : Hs) (i : Int) : Int := IntKind.u64.wrap (s.a1 i + s.b1 i)
def Hs.d2 (s : Hs) (i : Int) : Int := rot16 (bits .xor .u64 (s.d1 i) (s.a2 i))
def Hs.c2 (s : Hs) (i : Int) : Int := IntKind.u64.wrap (s.c1 i + s.d2 i)
def Hs.b2 (s : Hs) (i : Int) : Int := rot63 (bits .xor .u64 (s.b1 i) (s.c2 i))
def Hs.round (s : Hs) (i : Int) : Hs := ⟨s.a2 i, s.b2 i, s.c2 i, s.d2 i⟩
/-- The first k rounds. -/
def Hs.rounds (s : Hs) : Nat → Hs
  | 0 => s
  | k + 1 => (s.rounds k).round ((k : Int) + 1)
def Hs.stir (s : Hs) : Hs := s.rounds 6
theorem h_at {w : World} {x : Obj} {k : Nat} (hk : k = w.heap.size) : (w.alloc x).heap[k]? = some x := by subst hk; exact heap_alloc_new w x
theorem h_one (w : World) (a : Obj) : Below w.heap.size w (w.alloc a) := (Below.refl _ _).alloc (Nat.le_refl _) _
theorem h_two (w : World) (a b : Obj) : Below w.heap.size w ((w.alloc a).alloc b) := ((Below.refl _ _).alloc (Nat.le_refl _) _).alloc (by simp) _
/-- A state in its box. -/
def StAt (w : World) (g : Nat) (s : Hs) : Prop := w.heap[g]? = some (.cells #[.int .u64 s.a, .int .u64 s.b, .int .u64 s.c, .int .u64 s.d] 131 (0, 0))
theorem StAt.set {w : World} {g : Nat} {s : Hs} (h : StAt w g s) (a b c d : Int) :
    StAt ((((w.setCell ⟨g, 0, none⟩ (.int .u64 a)).setCell ⟨g, 1, none⟩ (.int .u64 b)).setCell ⟨g, 2, none⟩ (.int .u64 c)).setCell ⟨g, 3, none⟩ (.int .u64 d)) g ⟨a, b, c, d⟩ := by
  have h1 := Joins.block_setCell (i := 0) h (.int .u64 a)
  have h2 := Joins.block_setCell (i := 1) h1 (.int .u64 b)
  have h3 := Joins.block_setCell (i := 2) h2 (.int .u64 c)
  have h4 := Joins.block_setCell (i := 3) h3 (.int .u64 d)
  simpa [StAt] using h4
theorem grown_set1 (w : World) (g i : Nat) (v : Value) : w.grownBy (w.setCell ⟨g, i, none⟩ v) (some g) :=
  ⟨rfl, rfl, rfl, by simp [World.setCell], fun k _ hne => Below.heap_setCell w ⟨g, i, none⟩ v k (fun e => hne (by rw [e]))⟩
theorem grown_set4 (w : World) (g : Nat) (a b c d : Value) : w.grownBy ((((w.setCell ⟨g, 0, none⟩ a).setCell ⟨g, 1, none⟩ b).setCell ⟨g, 2, none⟩ c).setCell ⟨g, 3, none⟩ d) (some g) :=
  (((grown_set1 w g 0 a).trans (grown_set1 _ g 1 b)).trans (grown_set1 _ g 2 c)).trans (grown_set1 _ g 3 d)
theorem hgrown_drew {w w' : World} {r : Option Nat} (h : w.grownBy w' r) : w.grownBy w'.drew r := ⟨h.os, h.tape, h.output, h.size, h.block⟩
theorem hgrown_drew0 {w w' : World} {r : Option Nat} (h : w.drew.grownBy w' r) : w.grownBy w' r := ⟨h.os, h.tape, h.output, h.size, h.block⟩
set_option maxRecDepth 100000 in
set_option maxHeartbeats 2000000 in
theorem stir_any (g : Nat) (s : Hs) (w : World) (h : StAt w g s) :
    Calls Try.prog 87 #[.pointer (some ⟨g, 0, none⟩)] w fun e w' => e = .returned (.tuple #[]) ∧ StAt w' g s.stir ∧ w.grownBy w' (some g) := by
  have z0 := block_cell h 0; have z1 := block_cell h 1; have z2 := block_cell h 2; have z3 := block_cell h 3
  have zf := block_free h
  simp at z0 z1 z2 z3
  have H := Lib.hid h
  clear h
  go_enter Try.func87, Try.ntmps87
  go_wp2
  go_region
  go_wp2
  go_loop [2, 3, 4, 5, 23] (fun a b c d i => ∃ k : Nat, k ≤ 6 ∧ i = .int .u64 (k : Int) ∧ a = .int .u64 (s.rounds k).a ∧ b = .int .u64 (s.rounds k).b ∧ c = .int .u64 (s.rounds k).c ∧ d = .int .u64 (s.rounds k).d) (fun _ _ _ _ i => 6 - (intOf i).toNat)
  case atStart => exact ⟨0, by omega, rfl, rfl, rfl, rfl, rfl⟩
  case round =>
    obtain ⟨k, hk, rfl, rfl, rfl, rfl, rfl⟩ := hrel
    by_cases hlt : k < 6
    · have hd1 : decide ((k : Int) < 6) = true := decide_eq_true (by omega)
      have hw : IntKind.u64.wrap ((k : Int) + 1) = (k : Int) + 1 := by rw [IntKind.wrap_u64]; omega
      have Hr : Hid (s.rounds (k + 1) = (s.rounds k).round ((k : Int) + 1)) := Lib.hid rfl
      generalize s.rounds k = q at *
      go_wp2_with (first | (go_at_call 92; with_reducible refine (rot32_any _ _).mono ?_; rintro e w' ⟨rfl, rfl⟩) | (go_at_call 92; with_reducible refine (rot24_any _ _).mono ?_; rintro e w' ⟨rfl, rfl⟩) | (go_at_call 92; with_reducible refine (rot16_any _ _).mono ?_; rintro e w' ⟨rfl, rfl⟩) | (go_at_call 92; with_reducible refine (rot63_any _ _).mono ?_; rintro e w' ⟨rfl, rfl⟩))
      go_round
      case rel => exact ⟨k + 1, by omega, by go_num, by rw [Hr.out]; rfl, by rw [Hr.out]; rfl, by rw [Hr.out]; rfl, by rw [Hr.out]; rfl⟩
      case measure => simp [intOf]; omega
    · obtain rfl : k = 6 := by omega
      clear hlt hk
      go_wp2
      go_end0
      exact ⟨rfl, StAt.set H.out _ _ _ _, hgrown_drew (grown_set4 w g _ _ _ _)⟩
end Go.Proofs.Ytmpklplojfjfbaa
