/- The hash's rounds: the plain words, and the walks of RotateLeft64, left, stir, Stir. Condition: none. The hash's rounds in the reference: the walk of Stir. Condition: none. A number taken in by the hash: the walks of take, In, begin, Begin. Condition: none. The hash of bytes, plainly: states that take in eights. No condition. -/
import Derived.Test.YthjpaclcoipocaaWords
import Derived.Test.YthjpaclcoipocaaProg
import Derived.Laws.BitsAll
import Derived.WalkLawsBesides
import Derived.RegionTactic
import Derived.Lib.SmallJoins
import Derived.Test.YthjpaclcoipocaaDig
import Derived.Test.YthjpaclcoipocaaJoinX
import Derived.OpenShut
namespace Go.Proofs.Ythjpaclcoipocaa
open Go.RowKit Go.Lib
def rot32 (x : Int) : Int := bits .or .u64 (IntKind.u64.wrap (x * 4294967296)) (x / 4294967296)
theorem rot32_any (x : Int) (w : World) : Calls Try.prog 55 #[.int .u64 x, .int .i64 32] w fun e w' => e = .returned (.int .u64 (rot32 x)) ∧ w = w' := by
  have h : bits .and .u64 32 63 = 32 := by decide
  go_enter Try.func55, Try.ntmps55
  go_wp2
  go_ret
  exact ⟨rfl, rfl⟩
def rot24 (x : Int) : Int := bits .or .u64 (IntKind.u64.wrap (x * 16777216)) (x / 1099511627776)
theorem rot24_any (x : Int) (w : World) : Calls Try.prog 55 #[.int .u64 x, .int .i64 24] w fun e w' => e = .returned (.int .u64 (rot24 x)) ∧ w = w' := by
  have h : bits .and .u64 24 63 = 24 := by decide
  go_enter Try.func55, Try.ntmps55
  go_wp2
  go_ret
  exact ⟨rfl, rfl⟩
def rot16 (x : Int) : Int := bits .or .u64 (IntKind.u64.wrap (x * 65536)) (x / 281474976710656)
theorem rot16_any (x : Int) (w : World) : Calls Try.prog 55 #[.int .u64 x, .int .i64 16] w fun e w' => e = .returned (.int .u64 (rot16 x)) ∧ w = w' := by
  have h : bits .and .u64 16 63 = 16 := by decide
  go_enter Try.func55, Try.ntmps55
  go_wp2
  go_ret
  exact ⟨rfl, rfl⟩
def rot63 (x : Int) : Int := bits .or .u64 (IntKind.u64.wrap (x * 9223372036854775808)) (x / 2)
theorem rot63_any (x : Int) (w : World) : Calls Try.prog 55 #[.int .u64 x, .int .i64 63] w fun e w' => e = .returned (.int .u64 (rot63 x)) ∧ w = w' := by
  have h : bits .and .u64 63 63 = 63 := by decide
  go_enter Try.func55, Try.ntmps55
  go_wp2
  go_ret
  exact ⟨rfl, rfl⟩
structure Hs where
  a : Int
  b : Int
  c : Int
  d : Int
def Hs.a1 (s : Hs) (i : Int) : Int := bits .xor .u64 (IntKind.u64.wrap (s.a + s.b)) i
def Hs.d1 (s : Hs) (i : Int) : Int := rot32 (bits .xor .u64 s.d (s.a1 i))
def Hs.c1 (s : Hs) (i : Int) : Int := IntKind.u64.wrap (s.c + s.d1 i)
def Hs.b1 (s : Hs) (i : Int) : Int := rot24 (bits .xor .u64 s.b (s.c1 i))
def Hs.a2 (s : Hs) (i : Int) : Int := IntKind.u64.wrap (s.a1 i + s.b1 i)
def Hs.d2 (s : Hs) (i : Int) : Int := rot16 (bits .xor .u64 (s.d1 i) (s.a2 i))
def Hs.c2 (s : Hs) (i : Int) : Int := IntKind.u64.wrap (s.c1 i + s.d2 i)
def Hs.b2 (s : Hs) (i : Int) : Int := rot63 (bits .xor .u64 (s.b1 i) (s.c2 i))
def Hs.round (s : Hs) (i : Int) : Hs := ⟨s.a2 i, s.b2 i, s.c2 i, s.d2 i⟩
/-- The first k rounds. -/
def Hs.rounds (s : Hs) : Nat → Hs
  | 0 => s
  | k + 1 => (s.rounds k).round ((k : Int) + 1)
def Hs.stir (s : Hs) : Hs := s.rounds 6
theorem h_at {w : World} {x : Obj} {k : Nat} (hk : k = w.heap.size) : (w.alloc x).heap[k]? = some x := by subst hk; exact heap_alloc_new w x
theorem h_one (w : World) (a : Obj) : Below w.heap.size w (w.alloc a) := (Below.refl _ _).alloc (Nat.le_refl _) _
theorem h_two (w : World) (a b : Obj) : Below w.heap.size w ((w.alloc a).alloc b) := ((Below.refl _ _).alloc (Nat.le_refl _) _).alloc (by simp) _
/-- A state in its box. -/
def StAt (w : World) (g : Nat) (s : Hs) : Prop := w.heap[g]? = some (.cells #[.int .u64 s.a, .int .u64 s.b, .int .u64 s.c, .int .u64 s.d] 89 (0, 0))
theorem StAt.set {w : World} {g : Nat} {s : Hs} (h : StAt w g s) (a b c d : Int) :
    StAt ((((w.setCell ⟨g, 0, none⟩ (.int .u64 a)).setCell ⟨g, 1, none⟩ (.int .u64 b)).setCell ⟨g, 2, none⟩ (.int .u64 c)).setCell ⟨g, 3, none⟩ (.int .u64 d)) g ⟨a, b, c, d⟩ := by
  have h1 := Joins.block_setCell (i := 0) h (.int .u64 a)
  have h2 := Joins.block_setCell (i := 1) h1 (.int .u64 b)
  have h3 := Joins.block_setCell (i := 2) h2 (.int .u64 c)
  have h4 := Joins.block_setCell (i := 3) h3 (.int .u64 d)
  simpa [StAt] using h4
theorem grown_set1 (w : World) (g i : Nat) (v : Value) : w.grownBy (w.setCell ⟨g, i, none⟩ v) (some g) :=
  ⟨rfl, rfl, rfl, by simp [World.setCell], fun k _ hne => Below.heap_setCell w ⟨g, i, none⟩ v k (fun e => hne (by rw [e]))⟩
theorem grown_set4 (w : World) (g : Nat) (a b c d : Value) : w.grownBy ((((w.setCell ⟨g, 0, none⟩ a).setCell ⟨g, 1, none⟩ b).setCell ⟨g, 2, none⟩ c).setCell ⟨g, 3, none⟩ d) (some g) :=
  (((grown_set1 w g 0 a).trans (grown_set1 _ g 1 b)).trans (grown_set1 _ g 2 c)).trans (grown_set1 _ g 3 d)
theorem hgrown_drew {w w' : World} {r : Option Nat} (h : w.grownBy w' r) : w.grownBy w'.drew r := ⟨h.os, h.tape, h.output, h.size, h.block⟩
theorem hgrown_drew0 {w w' : World} {r : Option Nat} (h : w.drew.grownBy w' r) : w.grownBy w' r := ⟨h.os, h.tape, h.output, h.size, h.block⟩
set_option maxRecDepth 100000 in
set_option maxHeartbeats 2000000 in
theorem stir_any (g : Nat) (s : Hs) (w : World) (h : StAt w g s) :
    Calls Try.prog 54 #[.pointer (some ⟨g, 0, none⟩)] w fun e w' => e = .returned (.tuple #[]) ∧ StAt w' g s.stir ∧ w.grownBy w' (some g) := by
  have z0 := block_cell h 0; have z1 := block_cell h 1; have z2 := block_cell h 2; have z3 := block_cell h 3
  have zf := block_free h
  simp at z0 z1 z2 z3
  have H := Lib.hid h
  clear h
  go_enter Try.func54, Try.ntmps54
  go_wp2
  go_region
  go_wp2
  go_loop [2, 3, 4, 5, 23] (fun a b c d i => ∃ k : Nat, k ≤ 6 ∧ i = .int .u64 (k : Int) ∧ a = .int .u64 (s.rounds k).a ∧ b = .int .u64 (s.rounds k).b ∧ c = .int .u64 (s.rounds k).c ∧ d = .int .u64 (s.rounds k).d) (fun _ _ _ _ i => 6 - (intOf i).toNat)
  case atStart => exact ⟨0, by omega, rfl, rfl, rfl, rfl, rfl⟩
  case round =>
    obtain ⟨k, hk, rfl, rfl, rfl, rfl, rfl⟩ := hrel
    by_cases hlt : k < 6
    · have hd1 : decide ((k : Int) < 6) = true := decide_eq_true (by omega)
      have hw : IntKind.u64.wrap ((k : Int) + 1) = (k : Int) + 1 := by rw [IntKind.wrap_u64]; omega
      have Hr : Hid (s.rounds (k + 1) = (s.rounds k).round ((k : Int) + 1)) := Lib.hid rfl
      generalize s.rounds k = q at *
      go_wp2_with (first | (go_at_call 55; with_reducible refine (rot32_any _ _).mono ?_; rintro e w' ⟨rfl, rfl⟩) | (go_at_call 55; with_reducible refine (rot24_any _ _).mono ?_; rintro e w' ⟨rfl, rfl⟩) | (go_at_call 55; with_reducible refine (rot16_any _ _).mono ?_; rintro e w' ⟨rfl, rfl⟩) | (go_at_call 55; with_reducible refine (rot63_any _ _).mono ?_; rintro e w' ⟨rfl, rfl⟩))
      go_round
      case rel => exact ⟨k + 1, by omega, by go_num, by rw [Hr.out]; rfl, by rw [Hr.out]; rfl, by rw [Hr.out]; rfl, by rw [Hr.out]; rfl⟩
      case measure => simp [intOf]; omega
    · obtain rfl : k = 6 := by omega
      clear hlt hk
      go_wp2
      go_end0
      exact ⟨rfl, StAt.set H.out _ _ _ _, hgrown_drew (grown_set4 w g _ _ _ _)⟩
end Go.Proofs.Ythjpaclcoipocaa
namespace Go.Proofs.Ythjpaclcoipocaa
open Go.RowKit Go.Lib
end Go.Proofs.Ythjpaclcoipocaa
namespace Go.Proofs.Ythjpaclcoipocaa
open Go.RowKit Go.Lib
def Hs.xorA (s : Hs) (n : Int) : Hs := ⟨bits .xor .u64 s.a n, s.b, s.c, s.d⟩
def Hs.take (s : Hs) (n : Int) : Hs := (s.xorA n).stir
def Hs.begin (k : Int) : Hs := ⟨2611923443488327891, 1376283091369227076, 11820040416388919760, k⟩
set_option maxRecDepth 100000 in
set_option maxHeartbeats 1000000 in
theorem take_any (g : Nat) (s : Hs) (n : Int) (w : World) (h : StAt w g s) :
    Calls Try.prog 52 #[.pointer (some ⟨g, 0, none⟩), .int .u64 n] w fun e w' => e = .returned (.tuple #[]) ∧ StAt w' g (s.take n) ∧ w.grownBy w' (some g) := by
  have z0 := block_cell h 0; have z1 := block_cell h 1; have z2 := block_cell h 2; have z3 := block_cell h 3
  have zf := block_free h
  simp at z0 z1 z2 z3
  have H : Hid (StAt (w.setCell ⟨g, 0, none⟩ (.int .u64 (bits .xor .u64 s.a n))).drew g (s.xorA n)) := Lib.hid (by
    have := Joins.block_setCell (i := 0) h (.int .u64 (bits .xor .u64 s.a n))
    have e : StAt (w.setCell ⟨g, 0, none⟩ (.int .u64 (bits .xor .u64 s.a n))) g (s.xorA n) := by simpa [StAt, Hs.xorA] using this
    exact e)
  have G := Lib.hid (hgrown_drew (grown_set1 w g 0 (.int .u64 (bits .xor .u64 s.a n))))
  clear h
  go_enter Try.func52, Try.ntmps52
  go_wp2
  go_region
  all_goals
    go_wp2_with fail
    refine (stir_any g (s.xorA n) _ H.out).mono ?_
    rintro e w' ⟨rfl, h1, h2⟩
    have H1 := Lib.hid h1
    have H2 := Lib.hid (G.out.trans h2)
    clear h1 h2
    go_wp2
    go_end0
    exact ⟨rfl, H1.out, H2.out⟩
set_option maxRecDepth 100000 in
theorem begin_any (k : Int) (w : World) :
    Calls Try.prog 38 #[.int .u64 k] w fun e w' => e = .returned (.agg #[.int .u64 (Hs.begin k).a, .int .u64 (Hs.begin k).b, .int .u64 (Hs.begin k).c, .int .u64 (Hs.begin k).d]) ∧ Below w.heap.size w w' := by
  go_enter Try.func38, Try.ntmps38
  go_wp2
  refine bodyPost_ret (v := .agg #[.int .u64 (Hs.begin k).a, .int .u64 (Hs.begin k).b, .int .u64 (Hs.begin k).c, .int .u64 (Hs.begin k).d]) (by simp [results, Try.results38, go_sem, Hs.begin]) rfl ⟨rfl, h_one w _⟩
end Go.Proofs.Ythjpaclcoipocaa
namespace Go.Proofs.Ythjpaclcoipocaa
open Go.RowKit Go.Lib
/-- The k-th eight of bytes, zeros behind them. -/
def chunk (l : List Nat) (k : Nat) : D8 := ⟨l.getD (8 * k) 0, l.getD (8 * k + 1) 0, l.getD (8 * k + 2) 0, l.getD (8 * k + 3) 0, l.getD (8 * k + 4) 0, l.getD (8 * k + 5) 0, l.getD (8 * k + 6) 0, l.getD (8 * k + 7) 0⟩
def Hs.eat (s : Hs) (l : List Nat) : Nat → Hs
  | 0 => s
  | k + 1 => (s.eat l k).take ((chunk l k).num : Int)
def Hs.bytes (s : Hs) (l : List Nat) : Hs := (s.eat (l ++ [1]) (l.length / 8 + 1)).take (l.length : Int)
def Hs.mix (s : Hs) : Nat := (bits .xor .u64 s.a s.c).toNat
def Hs.out (s : Hs) : D8 := D8.of s.mix
def hashOf (l : List Nat) : D8 := ((Hs.begin 1).bytes l).out
def hashOne (d : D8) : D8 := ((Hs.begin 2).take (d.num : Int)).out
def hashTwo (a b : D8) : D8 := (((Hs.begin 3).take (a.num : Int)).take (b.num : Int)).out
def hashWord (d : D8) (l : List Nat) : D8 := (((Hs.begin 4).take (d.num : Int)).bytes l).out
theorem mix_int (s : Hs) : bits .xor .u64 s.a s.c = (s.mix : Int) := by
  have := wf_u64 (wf_bits .xor .u64 s.a s.c)
  unfold Hs.mix; omega
theorem mix_lt (s : Hs) : s.mix < 18446744073709551616 := by
  have := wf_u64 (wf_bits .xor .u64 s.a s.c)
  unfold Hs.mix; omega
theorem getD_lt {l : List Nat} (h : ∀ x ∈ l, x < 256) (k : Nat) : l.getD k 0 < 256 := by
  rw [List.getD_eq_getElem?_getD]
  rcases hk : l[k]? with _ | x
  · simp
  · simpa using h x (List.mem_of_getElem? hk)
theorem chunk_ok {l : List Nat} (h : ∀ x ∈ l, x < 256) (k : Nat) : (chunk l k).ok :=
  ⟨getD_lt h _, getD_lt h _, getD_lt h _, getD_lt h _, getD_lt h _, getD_lt h _, getD_lt h _, getD_lt h _⟩
theorem snoc_ok {l : List Nat} (h : ∀ x ∈ l, x < 256) : ∀ x ∈ l ++ [1], x < 256 := by
  intro x hx
  rcases List.mem_append.1 hx with h1 | h1
  · exact h x h1
  · simp at h1; omega
theorem getD_front (l m : List Nat) {k : Nat} (h : k < l.length) : (l ++ m).getD k 0 = l.getD k 0 := by
  rw [List.getD_eq_getElem?_getD, List.getD_eq_getElem?_getD, List.getElem?_append_left h]
theorem chunk_front (l m : List Nat) {k : Nat} (h : 8 * k + 8 ≤ l.length) : chunk (l ++ m) k = chunk l k := by
  unfold chunk
  rw [getD_front _ _ (by omega), getD_front _ _ (by omega), getD_front _ _ (by omega), getD_front _ _ (by omega), getD_front _ _ (by omega), getD_front _ _ (by omega), getD_front _ _ (by omega), getD_front _ _ (by omega)]
theorem eat_front (s : Hs) (l m : List Nat) : ∀ k, 8 * k ≤ l.length → s.eat (l ++ m) k = s.eat l k
  | 0, _ => rfl
  | k + 1, h => by
    show (s.eat (l ++ m) k).take _ = (s.eat l k).take _
    rw [eat_front s l m k (by omega), chunk_front l m (by omega)]
/-- Zeros behind bytes change no eight. -/
theorem getD_zeros (l : List Nat) (n k : Nat) : (l ++ List.replicate n 0).getD k 0 = l.getD k 0 := by
  rw [List.getD_eq_getElem?_getD, List.getD_eq_getElem?_getD]
  by_cases h : k < l.length
  · rw [List.getElem?_append_left h]
  · rw [List.getElem?_append_right (by omega), List.getElem?_replicate, List.getElem?_eq_none (by omega)]
    split <;> rfl
theorem chunk_zeros (l : List Nat) (n k : Nat) : chunk (l ++ List.replicate n 0) k = chunk l k := by
  unfold chunk; simp only [getD_zeros]
theorem eat_zeros (s : Hs) (l : List Nat) (n : Nat) : ∀ k, s.eat (l ++ List.replicate n 0) k = s.eat l k
  | 0 => rfl
  | k + 1 => by
    show (s.eat _ k).take _ = (s.eat l k).take _
    rw [eat_zeros s l n k, chunk_zeros]
/-- A digest's bytes as cells. -/
def D8.cs (d : D8) : List Value := [.int .u8 (d.x0 : Int), .int .u8 (d.x1 : Int), .int .u8 (d.x2 : Int), .int .u8 (d.x3 : Int), .int .u8 (d.x4 : Int), .int .u8 (d.x5 : Int), .int .u8 (d.x6 : Int), .int .u8 (d.x7 : Int)]
def D8.bytes (d : D8) : List Nat := [d.x0, d.x1, d.x2, d.x3, d.x4, d.x5, d.x6, d.x7]
theorem D8.bytes_lt {d : D8} (h : d.ok) : ∀ x ∈ d.bytes, x < 256 := by
  obtain ⟨h0, h1, h2, h3, h4, h5, h6, h7⟩ := h
  unfold D8.bytes
  intro x hx
  simp only [List.mem_cons, List.not_mem_nil, or_false] at hx
  rcases hx with rfl | rfl | rfl | rfl | rfl | rfl | rfl | rfl <;> assumption
theorem tail_cells0 (t : List Nat) (ht : t.length < 8) : ((t.map fun (x : Nat) => Value.int .u8 (x : Int)) ++ (List.replicate 8 (Value.int .u8 0)).drop t.length).set t.length (.int .u8 1) = (chunk (t ++ [1]) 0).cs := by
  rcases t with _ | ⟨x0, _ | ⟨x1, _ | ⟨x2, _ | ⟨x3, _ | ⟨x4, _ | ⟨x5, _ | ⟨x6, _ | ⟨x7, t⟩⟩⟩⟩⟩⟩⟩⟩ <;> first | rfl | (simp at ht; omega)
theorem getD_drop (l : List Nat) (n k : Nat) : (l.drop n).getD k 0 = l.getD (n + k) 0 := by
  rw [List.getD_eq_getElem?_getD, List.getD_eq_getElem?_getD, List.getElem?_drop]
theorem chunk_drop (l : List Nat) (q : Nat) : chunk (l.drop (8 * q)) 0 = chunk l q := by
  unfold chunk
  simp only [getD_drop]
  rfl
theorem tail_cells (l : List Nat) : (((l.drop (8 * (l.length / 8))).map fun (x : Nat) => Value.int .u8 (x : Int)) ++ (List.replicate 8 (Value.int .u8 0)).drop (l.drop (8 * (l.length / 8))).length).set (l.drop (8 * (l.length / 8))).length (.int .u8 1) = (chunk (l ++ [1]) (l.length / 8)).cs := by
  rw [tail_cells0 _ (by rw [List.length_drop]; omega), ← chunk_drop (l ++ [1]) (l.length / 8), List.drop_append_of_le_length (by omega)]
theorem set4 {w : World} {g : Nat} {T : TypeId} {c0 c1 c2 c3 : Value} (h : w.heap[g]? = some (.cells #[c0, c1, c2, c3] T (0, 0))) (v0 v1 v2 v3 : Value) :
    ((((w.setCell ⟨g, 0, none⟩ v0).setCell ⟨g, 1, none⟩ v1).setCell ⟨g, 2, none⟩ v2).setCell ⟨g, 3, none⟩ v3).heap[g]? = some (.cells #[v0, v1, v2, v3] T (0, 0)) := by
  have h1 := Joins.block_setCell (i := 0) h v0
  have h2 := Joins.block_setCell (i := 1) h1 v1
  have h3 := Joins.block_setCell (i := 2) h2 v2
  have h4 := Joins.block_setCell (i := 3) h3 v3
  simpa using h4
theorem free4 {w : World} {g : Nat} {T : TypeId} {c0 c1 c2 c3 : Value} (h : w.heap[g]? = some (.cells #[c0, c1, c2, c3] T (0, 0))) :
    (∀ j, w.frozen? ⟨g, j, none⟩ = false) ∧ w.cell? ⟨g, 0, none⟩ = some c0 ∧ w.cell? ⟨g, 1, none⟩ = some c1 ∧ w.cell? ⟨g, 2, none⟩ = some c2 ∧ w.cell? ⟨g, 3, none⟩ = some c3 :=
  ⟨block_free h, by simpa using block_cell h 0, by simpa using block_cell h 1, by simpa using block_cell h 2, by simpa using block_cell h 3⟩
theorem set8 {w : World} {g : Nat} {T : TypeId} {c0 c1 c2 c3 c4 c5 c6 c7 : Value} (h : w.heap[g]? = some (.cells #[c0, c1, c2, c3, c4, c5, c6, c7] T (0, 0))) (v0 v1 v2 v3 v4 v5 v6 v7 : Value) :
    ((((((((w.setCell ⟨g, 0, none⟩ v0).setCell ⟨g, 1, none⟩ v1).setCell ⟨g, 2, none⟩ v2).setCell ⟨g, 3, none⟩ v3).setCell ⟨g, 4, none⟩ v4).setCell ⟨g, 5, none⟩ v5).setCell ⟨g, 6, none⟩ v6).setCell ⟨g, 7, none⟩ v7).heap[g]? = some (.cells #[v0, v1, v2, v3, v4, v5, v6, v7] T (0, 0)) := by
  have h1 := Joins.block_setCell (i := 0) h v0
  have h2 := Joins.block_setCell (i := 1) h1 v1
  have h3 := Joins.block_setCell (i := 2) h2 v2
  have h4 := Joins.block_setCell (i := 3) h3 v3
  have h5 := Joins.block_setCell (i := 4) h4 v4
  have h6 := Joins.block_setCell (i := 5) h5 v5
  have h7 := Joins.block_setCell (i := 6) h6 v6
  have h8 := Joins.block_setCell (i := 7) h7 v7
  simpa using h8
theorem grown_set8 (w : World) (g : Nat) (v0 v1 v2 v3 v4 v5 v6 v7 : Value) :
    w.grownBy ((((((((w.setCell ⟨g, 0, none⟩ v0).setCell ⟨g, 1, none⟩ v1).setCell ⟨g, 2, none⟩ v2).setCell ⟨g, 3, none⟩ v3).setCell ⟨g, 4, none⟩ v4).setCell ⟨g, 5, none⟩ v5).setCell ⟨g, 6, none⟩ v6).setCell ⟨g, 7, none⟩ v7) (some g) :=
  (((((((grown_set1 w g 0 v0).trans (grown_set1 _ g 1 v1)).trans (grown_set1 _ g 2 v2)).trans (grown_set1 _ g 3 v3)).trans (grown_set1 _ g 4 v4)).trans (grown_set1 _ g 5 v5)).trans (grown_set1 _ g 6 v6)).trans (grown_set1 _ g 7 v7)
theorem free8 {w : World} {g : Nat} {T : TypeId} {c0 c1 c2 c3 c4 c5 c6 c7 : Value} (h : w.heap[g]? = some (.cells #[c0, c1, c2, c3, c4, c5, c6, c7] T (0, 0))) :
    (∀ j, w.frozen? ⟨g, j, none⟩ = false) ∧ w.cell? ⟨g, 0, none⟩ = some c0 ∧ w.cell? ⟨g, 1, none⟩ = some c1 ∧ w.cell? ⟨g, 2, none⟩ = some c2 ∧ w.cell? ⟨g, 3, none⟩ = some c3 ∧ w.cell? ⟨g, 4, none⟩ = some c4 ∧ w.cell? ⟨g, 5, none⟩ = some c5 ∧ w.cell? ⟨g, 6, none⟩ = some c6 ∧ w.cell? ⟨g, 7, none⟩ = some c7 :=
  ⟨block_free h, by simpa using block_cell h 0, by simpa using block_cell h 1, by simpa using block_cell h 2, by simpa using block_cell h 3, by simpa using block_cell h 4, by simpa using block_cell h 5, by simpa using block_cell h 6, by simpa using block_cell h 7⟩
theorem own_at8 {w : World} {base m c i : Nat} {A : Option Addr} {x : List Nat} {e : TypeId} (h : w.ownsRow base e 1 (.slice A m c) m (x.map fun (x : Nat) => Value.int .u8 (x : Int))) (hi : i + 8 ≤ m) :
    ∃ b, A = some ⟨b, 0, none⟩ ∧ base ≤ b ∧ b < w.heap.size ∧ ∀ j, j < 8 → w.cell? ⟨b, i + j, none⟩ = some (.int .u8 ((x.getD (i + j) 0 : Nat) : Int)) := by
  obtain ⟨g, cap, hv, hb, hlt⟩ := h.form (by omega)
  have hA : A = some ⟨g, 0, none⟩ := by injection hv
  subst hA
  have hl : x.length = m := by simpa using h.1
  refine ⟨g, rfl, hb, hlt, fun j hj => ?_⟩
  obtain ⟨b, o, e1, _, hc⟩ := (Rd.of_own h).2 (by omega)
  injection e1 with e1; injection e1 with e2 e3
  subst e2; subst e3
  have := hc (i + j) (.int .u8 ((x.getD (i + j) 0 : Nat) : Int)) (by simp [List.getD_eq_getElem?_getD, List.getElem?_eq_getElem (show i + j < x.length by omega)])
  simpa using this
end Go.Proofs.Ythjpaclcoipocaa
