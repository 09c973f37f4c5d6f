/- The walks of Digest, and of a book's small functions. Condition: none. -/
import Derived.Test.YtebepgoaofhelaaJoinN
import Derived.Carry
import Derived.Test.YtebepgoaofhelaaTxA
import Derived.Deep.RegionHeld3
namespace Go.Proofs.Ytebepgoaofhelaa
open Go.RowKit Go.Lib

theorem info_En : (Try.prog.info? 102).map (fun i => (i.zero, i.size, i.bytes)) = some (some (.agg #[.int .u8 0, .int .u8 0, .int .u8 0, .int .u8 0, .int .u8 0, .int .u8 0, .int .u8 0, .int .u8 0, .int .u8 0, .int .u8 0, .int .u8 0, .int .u8 0, .int .u8 0, .int .u8 0, .int .u8 0, .int .u8 0]), 16, 16) := by kernel_rfl
def flatE (l : List En) : List Value := l.flatMap En.cells
theorem flatE_len (l : List En) : (flatE l).length = l.length * 16 := by
  induction l with
  | nil => rfl
  | cons i l ih =>
    have : flatE (i :: l) = i.cells ++ flatE l := by simp [flatE]
    rw [this, List.length_append, ih]; simp [En.cells]; omega
theorem flatE_append (l m : List En) : flatE (l ++ m) = flatE l ++ flatE m := by simp [flatE]
/-- A book lies in blocks bk and mb, its list in a row from block B on. -/
structure BookAt (w : World) (B bk mb : Nat) (L : List En) : Prop where
  book : ∃ A n c, w.heap[bk]? = some (.cells #[.slice A n c, .map (some mb)] 92 (0, 0)) ∧ w.ownsRow B 102 16 (.slice A n c) n (flatE L)
  places : PlacesAt w mb L
  lb : bk < B
  lm : mb < B
  hB : B ≤ w.heap.size
  nodup : L.Nodup
  ok : ∀ e ∈ L, e.ok
theorem PlacesAt.lt {w : World} {b : Nat} {L : List En} (h : PlacesAt w b L) : b < w.heap.size := by
  obtain ⟨es, clock, h1, _⟩ := h
  exact (Array.getElem?_eq_some_iff.1 h1).1
theorem BookAt.below {w w' : World} {B bk mb : Nat} {L : List En} (h : BookAt w B bk mb L) (hb : Below w.heap.size w w') : BookAt w' B bk mb L := by
  obtain ⟨A, n, c, h1, h2⟩ := h.book
  exact ⟨⟨A, n, c, block_below h1 hb (block_lt h1), own_below h2 hb⟩, h.places.same (hb.block _ h.places.lt), h.lb, h.lm, Nat.le_trans h.hB hb.size, h.nodup, h.ok⟩
set_option maxRecDepth 100000 in
theorem newBook_any (w : World) : Calls Try.prog 27 #[] w fun e w' => e = .returned (.pointer (some ⟨w.heap.size + 1, 0, none⟩)) ∧ BookAt w' (w.heap.size + 2) (w.heap.size + 1) w.heap.size [] ∧ Below w.heap.size w w' := by
  have hmm := @run_makeMap Try.prog
  go_enter Try.func27, Try.ntmps27
  go_wp2
  go_ret
  refine ⟨rfl, ⟨⟨none, 0, 0, ?_, World.ownsRow_nil _ _ _ _⟩, ⟨#[], 0, ?_, rfl⟩, by omega, by omega, by simp, by simp, by simp⟩, ((Below.refl _ _).alloc (Nat.le_refl _) _).alloc (by simp) _⟩
  · have := heap_alloc_new (w.alloc (Obj.map #[] 0)) (.cells #[.slice none 0 0, .map (some w.heap.size)] 92)
    simpa using this
  · exact block_alloc (heap_alloc_new w _) _
set_option maxRecDepth 100000 in
theorem signer_any (k : D8) (b : Nat) (w : World) : Calls Try.prog 29 #[.pointer (some ⟨b, 0, none⟩), .agg #[.int .u8 (k.x0 : Int), .int .u8 (k.x1 : Int), .int .u8 (k.x2 : Int), .int .u8 (k.x3 : Int), .int .u8 (k.x4 : Int), .int .u8 (k.x5 : Int), .int .u8 (k.x6 : Int), .int .u8 (k.x7 : Int)]] w fun e w' => e = .returned (.iface 95 (.agg #[.pointer (some ⟨b, 0, none⟩), .int .u8 (k.x0 : Int), .int .u8 (k.x1 : Int), .int .u8 (k.x2 : Int), .int .u8 (k.x3 : Int), .int .u8 (k.x4 : Int), .int .u8 (k.x5 : Int), .int .u8 (k.x6 : Int), .int .u8 (k.x7 : Int)])) ∧ Below w.heap.size w w' := by
  go_enter Try.func29, Try.ntmps29
  go_wp2
  go_ret
  exact ⟨rfl, below_one w _⟩
set_option maxRecDepth 100000 in
theorem key_any (k : D8) (b : Nat) (w : World) : Calls Try.prog 94 #[.agg #[.pointer (some ⟨b, 0, none⟩), .int .u8 (k.x0 : Int), .int .u8 (k.x1 : Int), .int .u8 (k.x2 : Int), .int .u8 (k.x3 : Int), .int .u8 (k.x4 : Int), .int .u8 (k.x5 : Int), .int .u8 (k.x6 : Int), .int .u8 (k.x7 : Int)]] w fun e w' => e = .returned (.agg #[.int .u8 (k.x0 : Int), .int .u8 (k.x1 : Int), .int .u8 (k.x2 : Int), .int .u8 (k.x3 : Int), .int .u8 (k.x4 : Int), .int .u8 (k.x5 : Int), .int .u8 (k.x6 : Int), .int .u8 (k.x7 : Int)]) ∧ Below w.heap.size w w' := by
  go_enter Try.func94, Try.ntmps94
  go_wp2
  refine bodyPost_ret (v := .agg #[.int .u8 (k.x0 : Int), .int .u8 (k.x1 : Int), .int .u8 (k.x2 : Int), .int .u8 (k.x3 : Int), .int .u8 (k.x4 : Int), .int .u8 (k.x5 : Int), .int .u8 (k.x6 : Int), .int .u8 (k.x7 : Int)]) (by simp [results, Try.results94, go_sem]) rfl ⟨rfl, ?_⟩
  exact ((Below.refl _ _).alloc (Nat.le_refl _) _).alloc (by simp) _
end Go.Proofs.Ytebepgoaofhelaa
