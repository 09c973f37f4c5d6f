/- A number taken in by the hash: the walks of take, In, begin, Begin. Condition: none. -/
import Derived.Test.YtmpklplojfjfbaaHsB
namespace Go.Proofs.Ytmpklplojfjfbaa
open Go.RowKit Go.Lib
def Hs.xorA (s : Hs) (n : Int) : Hs := ⟨bits .xor .u64 s.a n, s.b, s.c, s.d⟩
def Hs.take (s : Hs) (n : Int) : Hs := (s.xorA n).stir
def Hs.begin (k : Int) : Hs := ⟨2611923443488327891, 1376283091369227076, 11820040416388919760, k⟩
set_option maxRecDepth 100000 in
set_option maxHeartbeats 1000000 in
theorem take_any (g : Nat) (s : Hs) (n : Int) (w : World) (h : StAt w g s) :
    Calls Try.prog 81 #[.pointer (some ⟨g, 0, none⟩), .int .u64 n] w fun e w' => e = .returned (.tuple #[]) ∧ StAt w' g (s.take n) ∧ w.grownBy w' (some g) := by
  have z0 := block_cell h 0; have z1 := block_cell h 1; have z2 := block_cell h 2; have z3 := block_cell h 3
  have zf := block_free h
  simp at z0 z1 z2 z3
  have H : Hid (StAt (w.setCell ⟨g, 0, none⟩ (.int .u64 (bits .xor .u64 s.a n))).drew g (s.xorA n)) := Lib.hid (by
    have := Joins.block_setCell (i := 0) h (.int .u64 (bits .xor .u64 s.a n))
    have e : StAt (w.setCell ⟨g, 0, none⟩ (.int .u64 (bits .xor .u64 s.a n))) g (s.xorA n) := by simpa [StAt, Hs.xorA] using this
    exact e)
  have G := Lib.hid (hgrown_drew (grown_set1 w g 0 (.int .u64 (bits .xor .u64 s.a n))))
  clear h
  go_enter Try.func81, Try.ntmps81
  go_wp2
  go_region
  all_goals
    go_wp2_with fail
    refine (stir_any g (s.xorA n) _ H.out).mono ?_
    rintro e w' ⟨rfl, h1, h2⟩
    have H1 := Lib.hid h1
    have H2 := Lib.hid (G.out.trans h2)
    clear h1 h2
    go_wp2
    go_end0
    exact ⟨rfl, H1.out, H2.out⟩
set_option maxRecDepth 100000 in
theorem begin_any (k : Int) (w : World) :
    Calls Try.prog 80 #[.int .u64 k] w fun e w' => e = .returned (.agg #[.int .u64 (Hs.begin k).a, .int .u64 (Hs.begin k).b, .int .u64 (Hs.begin k).c, .int .u64 (Hs.begin k).d]) ∧ Below w.heap.size w w' := by
  go_enter Try.func80, Try.ntmps80
  go_wp2
  refine bodyPost_ret (v := .agg #[.int .u64 (Hs.begin k).a, .int .u64 (Hs.begin k).b, .int .u64 (Hs.begin k).c, .int .u64 (Hs.begin k).d]) (by simp [results, Try.results80, go_sem, Hs.begin]) rfl ⟨rfl, h_one w _⟩
end Go.Proofs.Ytmpklplojfjfbaa
