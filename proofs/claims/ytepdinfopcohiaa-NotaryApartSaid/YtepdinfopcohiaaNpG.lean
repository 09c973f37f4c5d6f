/- A book that was cloned: what is signed in it; the walks of Clone and Same. Conditions: room in the book. -/
import Derived.Test.YtepdinfopcohiaaNpD
import Derived.Lib.SmallJoins
namespace Go.Proofs.Ytepdinfopcohiaa
open Go.RowKit Go.Lib


/-- A book whose blocks all lie from C on, in whatever order. -/
structure BookG (w : World) (C bk mb : Nat) (L : List En) : Prop where
  book : ∃ A n c, w.heap[bk]? = some (.cells #[.slice A n c, .map (some mb)] 84 (0, 0)) ∧ w.ownsRow C 86 16 (.slice A n c) n (flatE L)
  places : PlacesAt w mb L
  cb : C ≤ bk
  cm : C ≤ mb
  nodup : L.Nodup
  ok : ∀ e ∈ L, e.ok
theorem BookG.below {w w' : World} {C bk mb : Nat} {L : List En} (h : BookG w C bk mb L) (hb : Below w.heap.size w w') : BookG w' C bk mb L := by
  obtain ⟨A, n, c, h1, h2⟩ := h.book
  exact ⟨⟨A, n, c, block_below h1 hb (block_lt h1), own_below h2 hb⟩, h.places.same (hb.block mb h.places.lt), h.cb, h.cm, h.nodup, h.ok⟩
/-- Blocks of other kinds stay. -/
def KeptT (w w' : World) : Prop := ∀ (k : Nat) (cs : Array Value) (t : TypeId) (fz : Nat × Nat), w.heap[k]? = some (.cells cs t fz) → t ≠ 86 → t ≠ 84 → w'.heap[k]? = some (.cells cs t fz)
theorem KeptT.of_below {w w' : World} (h : Below w.heap.size w w') : KeptT w w' := fun _ _ _ _ h1 _ _ => block_below h1 h (block_lt h1)
theorem KeptT.own {w w' : World} {base sz n : Nat} {e : TypeId} {v : Value} {xs : List Value} (h : KeptT w w') (ho : w.ownsRow base e sz v n xs) (h1 : e ≠ 86) (h2 : e ≠ 84) : w'.ownsRow base e sz v n xs := by
  refine ⟨ho.1, ?_⟩
  rcases ho.2 with h0 | ⟨g, cap, cur, rfl, a1, a2, a3⟩
  · exact .inl h0
  · exact .inr ⟨g, cap, cur, rfl, a1, h g cur e (0, 0) a2 h1 h2, a3⟩
theorem places_gt {w w' : World} {C mb : Nat} {e : TypeId} {L : List En} (h : PlacesAt w mb L) (hg : GT C e w w') : PlacesAt w' mb L := by
  obtain ⟨row, a, b⟩ := hg
  refine h.same (a.block mb h.lt (fun hr => ?_))
  obtain ⟨_, cs, fz, h3⟩ := b mb hr.symm
  obtain ⟨es, cl, h4, _⟩ := h
  rw [h3] at h4
  simp at h4
set_option maxRecDepth 100000 in
set_option maxHeartbeats 2000000 in
theorem gsign_some (C bk mb : Nat) (L : List En) (e : En) (w : World) (h : BookG w C bk mb L) (he : e.ok) (i : Nat) (hp : posE L e = some i) (_hlen : L.length < 60000) :
    Calls Try.prog 53 #[.pointer (some ⟨bk, 0, none⟩), .agg #[.int .u8 (e.key.x0 : Int), .int .u8 (e.key.x1 : Int), .int .u8 (e.key.x2 : Int), .int .u8 (e.key.x3 : Int), .int .u8 (e.key.x4 : Int), .int .u8 (e.key.x5 : Int), .int .u8 (e.key.x6 : Int), .int .u8 (e.key.x7 : Int), .int .u8 (e.msg.x0 : Int), .int .u8 (e.msg.x1 : Int), .int .u8 (e.msg.x2 : Int), .int .u8 (e.msg.x3 : Int), .int .u8 (e.msg.x4 : Int), .int .u8 (e.msg.x5 : Int), .int .u8 (e.msg.x6 : Int), .int .u8 (e.msg.x7 : Int)]] w fun r w' => ∃ g, r = .returned (.tuple #[.slice (some ⟨g, 0, none⟩) 2 2, .int .i64 0]) ∧ BookG w' C bk mb (signE L e).1 ∧ Below C w w' ∧ KeptT w w' := by
  obtain ⟨A, n, c, hbk, hown⟩ := h.book
  obtain ⟨i0, hi, hz0, hz1, hz2⟩ := info_parts info_En
  have HI := Lib.hid (And.intro hi (And.intro hz0 (And.intro hz1 hz2))); clear hi hz0 hz1 hz2
  have hlook := look_places (w := (w.alloc (.cells #[.int .u8 (e.key.x0 : Int), .int .u8 (e.key.x1 : Int), .int .u8 (e.key.x2 : Int), .int .u8 (e.key.x3 : Int), .int .u8 (e.key.x4 : Int), .int .u8 (e.key.x5 : Int), .int .u8 (e.key.x6 : Int), .int .u8 (e.key.x7 : Int), .int .u8 (e.msg.x0 : Int), .int .u8 (e.msg.x1 : Int), .int .u8 (e.msg.x2 : Int), .int .u8 (e.msg.x3 : Int), .int .u8 (e.msg.x4 : Int), .int .u8 (e.msg.x5 : Int), .int .u8 (e.msg.x6 : Int), .int .u8 (e.msg.x7 : Int)] 86)).drew) (h.places.same (Below.heap_alloc w _ _ h.places.lt)) h.nodup h.ok e he
  simp only [En.V] at hlook
  have q0 := block_cell hbk 0
  have q1 := block_cell hbk 1
  have qf := block_free hbk
  have hlt := block_lt hbk
  simp at q0 q1
  rw [hp] at hlook
  go_enter Try.func53, Try.ntmps53
  go_wp2
  go_region
  all_goals
    go_wp2
    go_ret2
    have hs : signE L e = (L, i) := by unfold signE; rw [hp]
    have hb : Below w.heap.size w ((w.alloc (.cells #[.int .u8 (e.key.x0 : Int), .int .u8 (e.key.x1 : Int), .int .u8 (e.key.x2 : Int), .int .u8 (e.key.x3 : Int), .int .u8 (e.key.x4 : Int), .int .u8 (e.key.x5 : Int), .int .u8 (e.key.x6 : Int), .int .u8 (e.key.x7 : Int), .int .u8 (e.msg.x0 : Int), .int .u8 (e.msg.x1 : Int), .int .u8 (e.msg.x2 : Int), .int .u8 (e.msg.x3 : Int), .int .u8 (e.msg.x4 : Int), .int .u8 (e.msg.x5 : Int), .int .u8 (e.msg.x6 : Int), .int .u8 (e.msg.x7 : Int)] 86)).alloc (.cells #[.int .u8 ((i : Int) % 256), .int .u8 ((i : Int) / 256 % 256)] 5)).drew := (((Below.refl _ _).alloc (Nat.le_refl _) _).alloc (by simp) _).drew
    refine ⟨w.heap.size + 1, rfl, ?_, hb.mono (by have := h.places.lt; have := h.cm; omega), KeptT.of_below hb⟩
    rw [hs]; exact h.below hb
set_option maxRecDepth 100000 in
set_option maxHeartbeats 2000000 in
theorem gsign_none (C bk mb : Nat) (L : List En) (e : En) (w : World) (h : BookG w C bk mb L) (he : e.ok) (hp : posE L e = none) (hlen : L.length < 60000) :
    Calls Try.prog 53 #[.pointer (some ⟨bk, 0, none⟩), .agg #[.int .u8 (e.key.x0 : Int), .int .u8 (e.key.x1 : Int), .int .u8 (e.key.x2 : Int), .int .u8 (e.key.x3 : Int), .int .u8 (e.key.x4 : Int), .int .u8 (e.key.x5 : Int), .int .u8 (e.key.x6 : Int), .int .u8 (e.key.x7 : Int), .int .u8 (e.msg.x0 : Int), .int .u8 (e.msg.x1 : Int), .int .u8 (e.msg.x2 : Int), .int .u8 (e.msg.x3 : Int), .int .u8 (e.msg.x4 : Int), .int .u8 (e.msg.x5 : Int), .int .u8 (e.msg.x6 : Int), .int .u8 (e.msg.x7 : Int)]] w fun r w' => ∃ g, r = .returned (.tuple #[.slice (some ⟨g, 0, none⟩) 2 2, .int .i64 0]) ∧ BookG w' C bk mb (signE L e).1 ∧ Below C w w' ∧ KeptT w w' := by
  obtain ⟨A, n, c, hbk, hown⟩ := h.book
  obtain ⟨i0, hi, hz0, hz1, hz2⟩ := info_parts info_En
  have HI := Lib.hid (And.intro hi (And.intro hz0 (And.intro hz1 hz2))); clear hi hz0 hz1 hz2
  have hlook := look_places (w := (w.alloc (.cells #[.int .u8 (e.key.x0 : Int), .int .u8 (e.key.x1 : Int), .int .u8 (e.key.x2 : Int), .int .u8 (e.key.x3 : Int), .int .u8 (e.key.x4 : Int), .int .u8 (e.key.x5 : Int), .int .u8 (e.key.x6 : Int), .int .u8 (e.key.x7 : Int), .int .u8 (e.msg.x0 : Int), .int .u8 (e.msg.x1 : Int), .int .u8 (e.msg.x2 : Int), .int .u8 (e.msg.x3 : Int), .int .u8 (e.msg.x4 : Int), .int .u8 (e.msg.x5 : Int), .int .u8 (e.msg.x6 : Int), .int .u8 (e.msg.x7 : Int)] 86)).drew) (h.places.same (Below.heap_alloc w _ _ h.places.lt)) h.nodup h.ok e he
  simp only [En.V] at hlook
  have q0 := block_cell hbk 0
  have q1 := block_cell hbk 1
  have qf := block_free hbk
  have hlt := block_lt hbk
  simp at q0 q1
  rw [hp] at hlook
  have hln : L.length = n := by have := hown.1; rw [flatE_len] at this; omega
  have d1 : decide ((65536 : Int) ≤ (n : Int)) = false := decide_eq_false (by omega)
  have hB : C ≤ w.heap.size := by have := h.places.lt; have := h.cm; omega
  have Hp := Lib.hid hp; have Hln := Lib.hid hln; have Hown := Lib.hid hown; have Hbk := Lib.hid hbk; have H := Lib.hid h; have Hlen := Lib.hid hlen
  have He := Lib.hid he
  clear hp hln hown hbk h hlen he
  go_enter Try.func53, Try.ntmps53
  go_wp2
  go_region
  all_goals
    clear hlook
    go_wp2
    have hsz2 : ((w.alloc (.cells #[.int .u8 (e.key.x0 : Int), .int .u8 (e.key.x1 : Int), .int .u8 (e.key.x2 : Int), .int .u8 (e.key.x3 : Int), .int .u8 (e.key.x4 : Int), .int .u8 (e.key.x5 : Int), .int .u8 (e.key.x6 : Int), .int .u8 (e.key.x7 : Int), .int .u8 (e.msg.x0 : Int), .int .u8 (e.msg.x1 : Int), .int .u8 (e.msg.x2 : Int), .int .u8 (e.msg.x3 : Int), .int .u8 (e.msg.x4 : Int), .int .u8 (e.msg.x5 : Int), .int .u8 (e.msg.x6 : Int), .int .u8 (e.msg.x7 : Int)] 86)).drew).heap.size = w.heap.size + 1 := by
      show (w.alloc _).heap.size = _
      simp
    have HX2 : Hid (((w.alloc (.cells #[.int .u8 (e.key.x0 : Int), .int .u8 (e.key.x1 : Int), .int .u8 (e.key.x2 : Int), .int .u8 (e.key.x3 : Int), .int .u8 (e.key.x4 : Int), .int .u8 (e.key.x5 : Int), .int .u8 (e.key.x6 : Int), .int .u8 (e.key.x7 : Int), .int .u8 (e.msg.x0 : Int), .int .u8 (e.msg.x1 : Int), .int .u8 (e.msg.x2 : Int), .int .u8 (e.msg.x3 : Int), .int .u8 (e.msg.x4 : Int), .int .u8 (e.msg.x5 : Int), .int .u8 (e.msg.x6 : Int), .int .u8 (e.msg.x7 : Int)] 86)).drew).heap[w.heap.size]? = some (.cells #[.int .u8 (e.key.x0 : Int), .int .u8 (e.key.x1 : Int), .int .u8 (e.key.x2 : Int), .int .u8 (e.key.x3 : Int), .int .u8 (e.key.x4 : Int), .int .u8 (e.key.x5 : Int), .int .u8 (e.key.x6 : Int), .int .u8 (e.key.x7 : Int), .int .u8 (e.msg.x0 : Int), .int .u8 (e.msg.x1 : Int), .int .u8 (e.msg.x2 : Int), .int .u8 (e.msg.x3 : Int), .int .u8 (e.msg.x4 : Int), .int .u8 (e.msg.x5 : Int), .int .u8 (e.msg.x6 : Int), .int .u8 (e.msg.x7 : Int)] 86 (0, 0))) := Lib.hid (heap_alloc_new w _)
    have HB2 : Hid (((w.alloc (.cells #[.int .u8 (e.key.x0 : Int), .int .u8 (e.key.x1 : Int), .int .u8 (e.key.x2 : Int), .int .u8 (e.key.x3 : Int), .int .u8 (e.key.x4 : Int), .int .u8 (e.key.x5 : Int), .int .u8 (e.key.x6 : Int), .int .u8 (e.key.x7 : Int), .int .u8 (e.msg.x0 : Int), .int .u8 (e.msg.x1 : Int), .int .u8 (e.msg.x2 : Int), .int .u8 (e.msg.x3 : Int), .int .u8 (e.msg.x4 : Int), .int .u8 (e.msg.x5 : Int), .int .u8 (e.msg.x6 : Int), .int .u8 (e.msg.x7 : Int)] 86)).drew).heap[bk]? = some (.cells #[.slice A n c, .map (some mb)] 84 (0, 0))) := Lib.hid (block_alloc Hbk.out _)
    have HP2 : Hid (PlacesAt (w.alloc (.cells #[.int .u8 (e.key.x0 : Int), .int .u8 (e.key.x1 : Int), .int .u8 (e.key.x2 : Int), .int .u8 (e.key.x3 : Int), .int .u8 (e.key.x4 : Int), .int .u8 (e.key.x5 : Int), .int .u8 (e.key.x6 : Int), .int .u8 (e.key.x7 : Int), .int .u8 (e.msg.x0 : Int), .int .u8 (e.msg.x1 : Int), .int .u8 (e.msg.x2 : Int), .int .u8 (e.msg.x3 : Int), .int .u8 (e.msg.x4 : Int), .int .u8 (e.msg.x5 : Int), .int .u8 (e.msg.x6 : Int), .int .u8 (e.msg.x7 : Int)] 86)).drew mb L) := Lib.hid (H.out.places.same (Below.heap_alloc w _ _ H.out.places.lt))
    have HO2 : Hid (World.ownsRow (w.alloc (.cells #[.int .u8 (e.key.x0 : Int), .int .u8 (e.key.x1 : Int), .int .u8 (e.key.x2 : Int), .int .u8 (e.key.x3 : Int), .int .u8 (e.key.x4 : Int), .int .u8 (e.key.x5 : Int), .int .u8 (e.key.x6 : Int), .int .u8 (e.key.x7 : Int), .int .u8 (e.msg.x0 : Int), .int .u8 (e.msg.x1 : Int), .int .u8 (e.msg.x2 : Int), .int .u8 (e.msg.x3 : Int), .int .u8 (e.msg.x4 : Int), .int .u8 (e.msg.x5 : Int), .int .u8 (e.msg.x6 : Int), .int .u8 (e.msg.x7 : Int)] 86)).drew C 86 16 (.slice A n c) n (flatE L)) := Lib.hid (own_below (Hown.out.alloc _) (Below.refl _ _).drew)
    have HK2 : Hid (Below w.heap.size w (w.alloc (.cells #[.int .u8 (e.key.x0 : Int), .int .u8 (e.key.x1 : Int), .int .u8 (e.key.x2 : Int), .int .u8 (e.key.x3 : Int), .int .u8 (e.key.x4 : Int), .int .u8 (e.key.x5 : Int), .int .u8 (e.key.x6 : Int), .int .u8 (e.key.x7 : Int), .int .u8 (e.msg.x0 : Int), .int .u8 (e.msg.x1 : Int), .int .u8 (e.msg.x2 : Int), .int .u8 (e.msg.x3 : Int), .int .u8 (e.msg.x4 : Int), .int .u8 (e.msg.x5 : Int), .int .u8 (e.msg.x6 : Int), .int .u8 (e.msg.x7 : Int)] 86)).drew) := Lib.hid (below_one w _).drew
    have HSz := Lib.hid hsz2
    have hs2 : w.heap.size < (w.alloc (.cells #[.int .u8 (e.key.x0 : Int), .int .u8 (e.key.x1 : Int), .int .u8 (e.key.x2 : Int), .int .u8 (e.key.x3 : Int), .int .u8 (e.key.x4 : Int), .int .u8 (e.key.x5 : Int), .int .u8 (e.key.x6 : Int), .int .u8 (e.key.x7 : Int), .int .u8 (e.msg.x0 : Int), .int .u8 (e.msg.x1 : Int), .int .u8 (e.msg.x2 : Int), .int .u8 (e.msg.x3 : Int), .int .u8 (e.msg.x4 : Int), .int .u8 (e.msg.x5 : Int), .int .u8 (e.msg.x6 : Int), .int .u8 (e.msg.x7 : Int)] 86)).drew.heap.size := by rw [hsz2]; omega
    clear hsz2 q0 q1 qf
    generalize (w.alloc (.cells #[.int .u8 (e.key.x0 : Int), .int .u8 (e.key.x1 : Int), .int .u8 (e.key.x2 : Int), .int .u8 (e.key.x3 : Int), .int .u8 (e.key.x4 : Int), .int .u8 (e.key.x5 : Int), .int .u8 (e.key.x6 : Int), .int .u8 (e.key.x7 : Int), .int .u8 (e.msg.x0 : Int), .int .u8 (e.msg.x1 : Int), .int .u8 (e.msg.x2 : Int), .int .u8 (e.msg.x3 : Int), .int .u8 (e.msg.x4 : Int), .int .u8 (e.msg.x5 : Int), .int .u8 (e.msg.x6 : Int), .int .u8 (e.msg.x7 : Int)] 86)).drew = w2 at *
    have q0 := block_cell HB2.out 0
    have q1 := block_cell HB2.out 1
    have qf := block_free HB2.out
    simp at q0 q1
    have x := block_cell HX2.out
    have x0 := x 0; have x1 := x 1; have x2 := x 2; have x3 := x 3; have x4 := x 4; have x5 := x 5; have x6 := x 6; have x7 := x 7; have x8 := x 8; have x9 := x 9; have x10 := x 10; have x11 := x 11; have x12 := x 12; have x13 := x 13; have x14 := x 14; have x15 := x 15
    simp at x0 x1 x2 x3 x4 x5 x6 x7 x8 x9 x10 x11 x12 x13 x14 x15
    clear x
    have hbk2 := block_lt HB2.out
    have HO3 : Hid ((w2.drew.alloc (.cells #[.int .u8 (e.key.x0 : Int), .int .u8 (e.key.x1 : Int), .int .u8 (e.key.x2 : Int), .int .u8 (e.key.x3 : Int), .int .u8 (e.key.x4 : Int), .int .u8 (e.key.x5 : Int), .int .u8 (e.key.x6 : Int), .int .u8 (e.key.x7 : Int), .int .u8 (e.msg.x0 : Int), .int .u8 (e.msg.x1 : Int), .int .u8 (e.msg.x2 : Int), .int .u8 (e.msg.x3 : Int), .int .u8 (e.msg.x4 : Int), .int .u8 (e.msg.x5 : Int), .int .u8 (e.msg.x6 : Int), .int .u8 (e.msg.x7 : Int)] 86)).ownsRow C 86 16 (.slice A n c) n (flatE L)) := Lib.hid ((own_below HO2.out (Below.refl _ _).drew).alloc _)
    have HRl : Hid (Rd (w2.drew.alloc (.cells #[.int .u8 (e.key.x0 : Int), .int .u8 (e.key.x1 : Int), .int .u8 (e.key.x2 : Int), .int .u8 (e.key.x3 : Int), .int .u8 (e.key.x4 : Int), .int .u8 (e.key.x5 : Int), .int .u8 (e.key.x6 : Int), .int .u8 (e.key.x7 : Int), .int .u8 (e.msg.x0 : Int), .int .u8 (e.msg.x1 : Int), .int .u8 (e.msg.x2 : Int), .int .u8 (e.msg.x3 : Int), .int .u8 (e.msg.x4 : Int), .int .u8 (e.msg.x5 : Int), .int .u8 (e.msg.x6 : Int), .int .u8 (e.msg.x7 : Int)] 86)) (w2.heap.size + 1) 16 (some ⟨w2.heap.size, 0, none⟩) 1 (flatE [e])) := by
      show Rd _ _ _ _ _ _
      have := Rd.newA (n := 1) (sz := 16) (xs := flatE [e]) w2.drew 86 #[.int .u8 (e.key.x0 : Int), .int .u8 (e.key.x1 : Int), .int .u8 (e.key.x2 : Int), .int .u8 (e.key.x3 : Int), .int .u8 (e.key.x4 : Int), .int .u8 (e.key.x5 : Int), .int .u8 (e.key.x6 : Int), .int .u8 (e.key.x7 : Int), .int .u8 (e.msg.x0 : Int), .int .u8 (e.msg.x1 : Int), .int .u8 (e.msg.x2 : Int), .int .u8 (e.msg.x3 : Int), .int .u8 (e.msg.x4 : Int), .int .u8 (e.msg.x5 : Int), .int .u8 (e.msg.x6 : Int), .int .u8 (e.msg.x7 : Int)] rfl rfl
      simp at this
      exact this
    have HB3 : Hid ((w2.drew.alloc (.cells #[.int .u8 (e.key.x0 : Int), .int .u8 (e.key.x1 : Int), .int .u8 (e.key.x2 : Int), .int .u8 (e.key.x3 : Int), .int .u8 (e.key.x4 : Int), .int .u8 (e.key.x5 : Int), .int .u8 (e.key.x6 : Int), .int .u8 (e.key.x7 : Int), .int .u8 (e.msg.x0 : Int), .int .u8 (e.msg.x1 : Int), .int .u8 (e.msg.x2 : Int), .int .u8 (e.msg.x3 : Int), .int .u8 (e.msg.x4 : Int), .int .u8 (e.msg.x5 : Int), .int .u8 (e.msg.x6 : Int), .int .u8 (e.msg.x7 : Int)] 86)).heap[bk]? = some (.cells #[.slice A n c, .map (some mb)] 84 (0, 0))) := Lib.hid (block_alloc (w := w2.drew) HB2.out _)
    have HX3 : Hid ((w2.drew.alloc (.cells #[.int .u8 (e.key.x0 : Int), .int .u8 (e.key.x1 : Int), .int .u8 (e.key.x2 : Int), .int .u8 (e.key.x3 : Int), .int .u8 (e.key.x4 : Int), .int .u8 (e.key.x5 : Int), .int .u8 (e.key.x6 : Int), .int .u8 (e.key.x7 : Int), .int .u8 (e.msg.x0 : Int), .int .u8 (e.msg.x1 : Int), .int .u8 (e.msg.x2 : Int), .int .u8 (e.msg.x3 : Int), .int .u8 (e.msg.x4 : Int), .int .u8 (e.msg.x5 : Int), .int .u8 (e.msg.x6 : Int), .int .u8 (e.msg.x7 : Int)] 86)).heap[w.heap.size]? = some (.cells #[.int .u8 (e.key.x0 : Int), .int .u8 (e.key.x1 : Int), .int .u8 (e.key.x2 : Int), .int .u8 (e.key.x3 : Int), .int .u8 (e.key.x4 : Int), .int .u8 (e.key.x5 : Int), .int .u8 (e.key.x6 : Int), .int .u8 (e.key.x7 : Int), .int .u8 (e.msg.x0 : Int), .int .u8 (e.msg.x1 : Int), .int .u8 (e.msg.x2 : Int), .int .u8 (e.msg.x3 : Int), .int .u8 (e.msg.x4 : Int), .int .u8 (e.msg.x5 : Int), .int .u8 (e.msg.x6 : Int), .int .u8 (e.msg.x7 : Int)] 86 (0, 0))) := Lib.hid (block_alloc (w := w2.drew) HX2.out _)
    have HP3 : Hid (PlacesAt (w2.drew.alloc (.cells #[.int .u8 (e.key.x0 : Int), .int .u8 (e.key.x1 : Int), .int .u8 (e.key.x2 : Int), .int .u8 (e.key.x3 : Int), .int .u8 (e.key.x4 : Int), .int .u8 (e.key.x5 : Int), .int .u8 (e.key.x6 : Int), .int .u8 (e.key.x7 : Int), .int .u8 (e.msg.x0 : Int), .int .u8 (e.msg.x1 : Int), .int .u8 (e.msg.x2 : Int), .int .u8 (e.msg.x3 : Int), .int .u8 (e.msg.x4 : Int), .int .u8 (e.msg.x5 : Int), .int .u8 (e.msg.x6 : Int), .int .u8 (e.msg.x7 : Int)] 86)) mb L) := Lib.hid (HP2.out.same (Below.heap_alloc w2.drew _ _ HP2.out.lt))
    have HK3 : Hid (Below w.heap.size w (w2.drew.alloc (.cells #[.int .u8 (e.key.x0 : Int), .int .u8 (e.key.x1 : Int), .int .u8 (e.key.x2 : Int), .int .u8 (e.key.x3 : Int), .int .u8 (e.key.x4 : Int), .int .u8 (e.key.x5 : Int), .int .u8 (e.key.x6 : Int), .int .u8 (e.key.x7 : Int), .int .u8 (e.msg.x0 : Int), .int .u8 (e.msg.x1 : Int), .int .u8 (e.msg.x2 : Int), .int .u8 (e.msg.x3 : Int), .int .u8 (e.msg.x4 : Int), .int .u8 (e.msg.x5 : Int), .int .u8 (e.msg.x6 : Int), .int .u8 (e.msg.x7 : Int)] 86))) := Lib.hid (HK2.out.drew.alloc (by exact Nat.le_of_lt hs2) _)
    have HNe : Hid (∀ g, (Value.slice A n c).ownBlock = some g → g < w.heap.size) := Lib.hid fun g hg => (Hown.out.lt g hg).2
    go_region_law (refine step_append_rdg (w2.drew.alloc (.cells #[.int .u8 (e.key.x0 : Int), .int .u8 (e.key.x1 : Int), .int .u8 (e.key.x2 : Int), .int .u8 (e.key.x3 : Int), .int .u8 (e.key.x4 : Int), .int .u8 (e.key.x5 : Int), .int .u8 (e.key.x6 : Int), .int .u8 (e.key.x7 : Int), .int .u8 (e.msg.x0 : Int), .int .u8 (e.msg.x1 : Int), .int .u8 (e.msg.x2 : Int), .int .u8 (e.msg.x3 : Int), .int .u8 (e.msg.x4 : Int), .int .u8 (e.msg.x5 : Int), .int .u8 (e.msg.x6 : Int), .int .u8 (e.msg.x7 : Int)] 86)) (by rfl) _ _ 81 (by rfl) C 86 i0 (.agg #[.int .u8 0, .int .u8 0, .int .u8 0, .int .u8 0, .int .u8 0, .int .u8 0, .int .u8 0, .int .u8 0, .int .u8 0, .int .u8 0, .int .u8 0, .int .u8 0, .int .u8 0, .int .u8 0, .int .u8 0, .int .u8 0]) 16 16 Try.underlying81 HI.out rfl (by decide) _ _ _ (by rfl) HO3.out (w2.heap.size + 1) (some ⟨w2.heap.size, 0, none⟩) 1 1 _ (by simp [Act.eval]) HRl.out (by simp [flatE, En.cells, Value.oneCell']) (by have := Hlen.out; have := Hln.out; omega) (by have := Hlen.out; have := Hln.out; omega) (by simp; omega) ?_; go_must (intro v4 w4 ho4 hb4 hg4; obtain ⟨A4, c4, rfl⟩ := own_form ho4; have hgt4 := GT.of_own HO3.out hg4; have Hgt4 := Lib.hid hgt4; have HB4 := Lib.hid (hgt4.blk HB3.out (by decide)); have q40 := block_cell HB4.out 0; have q4f := block_free HB4.out; simp at q40; have HO4 := Lib.hid ho4; have Hb4 := Lib.hid hb4; have HP4 := Lib.hid (places_gt HP3.out hgt4); have HG4 := Lib.hid hg4; have HX4 := Lib.hid (block_grown HX3.out hg4 (fun e => by have := HNe.out _ e.symm; omega)); clear ho4 hb4 hg4 hgt4))
    all_goals
      go_wp2
      have hbm : mb ≠ bk := by
        intro e2
        obtain ⟨es, clock, h1, _⟩ := HP4.out
        rw [e2, HB4.out] at h1
        simp at h1
      have hg5 := grown_setN (w := w4) bk 0 (.slice A4 (n + 1) c4)
      have HB5 : Hid ((w4.setCell ⟨bk, 0, none⟩ (.slice A4 (n + 1) c4)).heap[bk]? = some (.cells #[.slice A4 (n + 1) c4, .map (some mb)] 84 (0, 0))) := by
        show _ = _
        have := Joins.block_setCell (i := 0) HB4.out (.slice A4 (n + 1) c4)
        simpa using this
      have HO5 := Lib.hid (World.ownsRow.kept HO4.out hg5 (.inr (fun e2 => own_ne HO4.out HB4.out (by decide) e2.symm)))
      have HP5 := Lib.hid (HP4.out.same (hg5.block mb HP4.out.lt (by intro e2; injection e2 with e2; exact hbm e2)))
      have HX5 := Lib.hid (block_grown HX4.out hg5 (by intro e2; injection e2 with e2; omega))
      have Hg5 := Lib.hid hg5
      clear hg5 q40 q4f q0 q1 qf x0 x1 x2 x3 x4 x5 x6 x7 x8 x9 x10 x11 x12 x13 x14 x15
      generalize w4.setCell ⟨bk, 0, none⟩ (.slice A4 (n + 1) c4) = w5 at *
      obtain ⟨w6, hrun, hp6, hg6⟩ := put_places (w := w5.drew) (b := mb) (L := L) (HP5.out.same rfl) H.out.ok e He.out Hp.out
      rw [Hln.out] at hrun
      simp only [En.V] at hrun
      have HP6 := Lib.hid hp6; have Hg6 := Lib.hid hg6
      clear hp6 hg6
      have q1 := block_cell HB5.out 1
      simp at q1
      refine wp_region_tail 6 (by kernel_rfl) (by kernel_rfl) ?_
      simp only [List.take_succ_cons, List.take_zero, List.drop_succ_cons, List.drop_zero]
      iterate 4 still_step
      refine still_load (by rfl) _ _ (by rfl) _ _ (by rfl) (load_en w5.drew w.heap.size e HX5.out) ?_
      still_step
      refine wpStill_nil ?_
      refine wpList_put w5.drew w6 (by rfl) _ _ _ 82 (by rfl) _ _ _ (by rfl) (by rfl) (by rfl) hrun ?_
      go_wp2
      go_ret2
      have hs : signE L e = (L ++ [e], L.length) := by unfold signE; rw [Hp.out]
      have hbl := block_lt HB5.out
      have hc1 := H.out.cb; have hc2 := H.out.cm
      have hk4 : Below C w w4 := (HK3.out.mono hB).trans Hb4.out
      have hk5 : Below C w w5 := hk4.grown Hg5.out (Nat.le_trans hB hk4.size) (fun q hq => by injection hq with hq; omega)
      have hk6 : Below C w w6 := hk5.drew.grown Hg6.out (Nat.le_trans hB hk5.size) (fun q hq => by injection hq with hq; omega)
      have hkt : KeptT w (w6.alloc (.cells #[.int .u8 ((n : Int) % 256), .int .u8 ((n : Int) / 256 % 256)] 5)) := by
        intro q cs ty fz h1 h2 h3
        have hq := block_lt h1
        have s3 := HK3.out.size
        have a3 : (w2.drew.alloc (.cells #[.int .u8 (e.key.x0 : Int), .int .u8 (e.key.x1 : Int), .int .u8 (e.key.x2 : Int), .int .u8 (e.key.x3 : Int), .int .u8 (e.key.x4 : Int), .int .u8 (e.key.x5 : Int), .int .u8 (e.key.x6 : Int), .int .u8 (e.key.x7 : Int), .int .u8 (e.msg.x0 : Int), .int .u8 (e.msg.x1 : Int), .int .u8 (e.msg.x2 : Int), .int .u8 (e.msg.x3 : Int), .int .u8 (e.msg.x4 : Int), .int .u8 (e.msg.x5 : Int), .int .u8 (e.msg.x6 : Int), .int .u8 (e.msg.x7 : Int)] 86)).heap[q]? = some (.cells cs ty fz) := block_below h1 HK3.out hq
        have a4 := Hgt4.out.blk a3 h2
        have a5 : w5.heap[q]? = some (.cells cs ty fz) := block_grown a4 Hg5.out (by
          intro e2; injection e2 with e2; subst e2
          rw [HB4.out] at a4
          injection a4 with a4
          injection a4 with _ a4
          exact h3 a4.symm)
        have a6 : w6.heap[q]? = some (.cells cs ty fz) := block_grown (w := w5.drew) a5 Hg6.out (by
          intro e2; injection e2 with e2; subst e2
          obtain ⟨es5, cl5, hm5, _⟩ := HP5.out
          rw [hm5] at a5
          simp at a5)
        exact block_alloc a6 _
      refine ⟨w6.heap.size, rfl, ?_, hk6.alloc (Nat.le_trans hB hk6.size) _, hkt⟩
      rw [hs]
      refine ⟨⟨A4, n + 1, c4, block_alloc (block_grown (w := w5.drew) HB5.out Hg6.out (by intro e2; injection e2 with e2; exact hbm e2.symm)) _, ?_⟩, HP6.out.same (Below.heap_alloc _ _ _ HP6.out.lt), hc1, hc2, ?_, ?_⟩
      · rw [flatE_append]
        obtain ⟨es5, cl5, hm5, _⟩ := HP5.out
        exact (World.ownsRow.kept (w := w5.drew) (own_below HO5.out (Below.refl _ _).drew) Hg6.out (.inr (fun e2 => own_ne_map HO5.out hm5 e2.symm))).alloc _
      · have := signE_nodup (e := e) H.out.nodup
        rw [hs] at this
        exact this
      · have := signE_ok H.out.ok He.out
        rw [hs] at this
        exact this
set_option maxRecDepth 100000 in
theorem gsign_any (C bk mb : Nat) (L : List En) (e : En) (w : World) (h : BookG w C bk mb L) (he : e.ok) (hlen : L.length < 60000) :
    Calls Try.prog 53 #[.pointer (some ⟨bk, 0, none⟩), .agg #[.int .u8 (e.key.x0 : Int), .int .u8 (e.key.x1 : Int), .int .u8 (e.key.x2 : Int), .int .u8 (e.key.x3 : Int), .int .u8 (e.key.x4 : Int), .int .u8 (e.key.x5 : Int), .int .u8 (e.key.x6 : Int), .int .u8 (e.key.x7 : Int), .int .u8 (e.msg.x0 : Int), .int .u8 (e.msg.x1 : Int), .int .u8 (e.msg.x2 : Int), .int .u8 (e.msg.x3 : Int), .int .u8 (e.msg.x4 : Int), .int .u8 (e.msg.x5 : Int), .int .u8 (e.msg.x6 : Int), .int .u8 (e.msg.x7 : Int)]] w fun r w' => ∃ g, r = .returned (.tuple #[.slice (some ⟨g, 0, none⟩) 2 2, .int .i64 0]) ∧ BookG w' C bk mb (signE L e).1 ∧ Below C w w' ∧ KeptT w w' := by
  cases hp : posE L e with
  | some i => exact gsign_some C bk mb L e w h he i hp hlen
  | none => exact gsign_none C bk mb L e w h he hp hlen
set_option maxRecDepth 100000 in
set_option maxHeartbeats 2000000 in
theorem gwsign_any (C bk mb : Nat) (L : List En) (k m : D8) (w : World) (h : BookG w C bk mb L) (hk : k.ok) (hm : m.ok) (hlen : L.length < 60000) :
    Calls Try.prog 52 #[.agg #[.pointer (some ⟨bk, 0, none⟩), .int .u8 (k.x0 : Int), .int .u8 (k.x1 : Int), .int .u8 (k.x2 : Int), .int .u8 (k.x3 : Int), .int .u8 (k.x4 : Int), .int .u8 (k.x5 : Int), .int .u8 (k.x6 : Int), .int .u8 (k.x7 : Int)], .agg #[.int .u8 (m.x0 : Int), .int .u8 (m.x1 : Int), .int .u8 (m.x2 : Int), .int .u8 (m.x3 : Int), .int .u8 (m.x4 : Int), .int .u8 (m.x5 : Int), .int .u8 (m.x6 : Int), .int .u8 (m.x7 : Int)]] w fun r w' => ∃ g, r = .returned (.tuple #[.slice (some ⟨g, 0, none⟩) 2 2, .int .i64 0]) ∧ BookG w' C bk mb (signE L ⟨k, m⟩).1 ∧ Below C w w' ∧ KeptT w w' := by
  have hC : C ≤ w.heap.size := by have := h.places.lt; have := h.cm; omega
  have H := Lib.hid h
  clear h
  have hb2 : Below w.heap.size w ((w.alloc (.cells #[.pointer (some ⟨bk, 0, none⟩), .int .u8 (k.x0 : Int), .int .u8 (k.x1 : Int), .int .u8 (k.x2 : Int), .int .u8 (k.x3 : Int), .int .u8 (k.x4 : Int), .int .u8 (k.x5 : Int), .int .u8 (k.x6 : Int), .int .u8 (k.x7 : Int)] 79)).alloc (.cells #[.int .u8 (m.x0 : Int), .int .u8 (m.x1 : Int), .int .u8 (m.x2 : Int), .int .u8 (m.x3 : Int), .int .u8 (m.x4 : Int), .int .u8 (m.x5 : Int), .int .u8 (m.x6 : Int), .int .u8 (m.x7 : Int)] 32)) := ((Below.refl _ _).alloc (Nat.le_refl _) _).alloc (by simp) _
  have HS := gsign_any C bk mb L ⟨k, m⟩ ((w.alloc (.cells #[.pointer (some ⟨bk, 0, none⟩), .int .u8 (k.x0 : Int), .int .u8 (k.x1 : Int), .int .u8 (k.x2 : Int), .int .u8 (k.x3 : Int), .int .u8 (k.x4 : Int), .int .u8 (k.x5 : Int), .int .u8 (k.x6 : Int), .int .u8 (k.x7 : Int)] 79)).alloc (.cells #[.int .u8 (m.x0 : Int), .int .u8 (m.x1 : Int), .int .u8 (m.x2 : Int), .int .u8 (m.x3 : Int), .int .u8 (m.x4 : Int), .int .u8 (m.x5 : Int), .int .u8 (m.x6 : Int), .int .u8 (m.x7 : Int)] 32)) (H.out.below hb2) ⟨hk, hm⟩ hlen
  have Hb2 := Lib.hid hb2
  clear hb2
  go_enter Try.func52, Try.ntmps52
  go_wp2_with fail
  refine HS.mono ?_
  rintro r w' ⟨g, rfl, h3, h4, h5⟩
  have H3 := Lib.hid h3; have H4 := Lib.hid h4; have H5 := Lib.hid h5
  clear h3 h4 h5
  go_wp2
  go_ret2
  exact ⟨g, rfl, H3.out, (Hb2.out.mono hC).trans H4.out, fun q cs ty fz h1 h2 h3 => H5.out q cs ty fz (block_below h1 Hb2.out (block_lt h1)) h2 h3⟩
end Go.Proofs.Ytepdinfopcohiaa
