/- The walks of slices.Clone at a held one, and of a purse's clone. Conditions: bounds. -/
import Derived.Test.YthhiookcknnmdaaGreatPuE
import Derived.Test.YthhiookcknnmdaaGreatAppend
namespace Go.Proofs.YthhiookcknnmdaaGreat
open Go.RowKit Go.Lib

def GivesHs (w : World) (l : List Hd) (e : Ending) (w' : World) : Prop := ∃ A n c, e = .returned (.slice A n c) ∧ w'.ownsRow w.heap.size 120 11 (.slice A n c) n (flatH l) ∧ n = l.length ∧ Below w.heap.size w w'
set_option maxRecDepth 100000 in
set_option maxHeartbeats 1000000 in
theorem sclone_any (A : Option Addr) (n c : Nat) (l : List Hd) (w : World) (hr : Rd w w.heap.size 11 A n (flatH l)) (hn : n ≤ 1000000) :
  Calls Tryz.prog 149 #[.slice A n c] w (GivesHs w l) := by
 obtain ⟨i0, hi, hz0, hz1, hz2⟩ := info_parts info_Held
 have HI := Lib.hid (And.intro hi (And.intro hz0 (And.intro hz1 hz2))); clear hi hz0 hz1 hz2
 have Hr := Lib.hid hr
 have Hl := Lib.hid hr.hlen
 clear hr
 have hnil := fun (A : Option Addr) (w' : World) => Lib.run_eql_slice_nil (P := Tryz.prog) w' 83 120 A n c 0 0 Tryz.underlying83
 cases A with
 | none =>
  have hn0 : n = 0 := by
   rcases Nat.eq_zero_or_pos n with h0 | h0
   ·exact h0
   ·obtain ⟨_, _, h2, _⟩ := Hr.out.2 h0
    cases h2
  have Hn0 := Lib.hid hn0
  clear hn0
  go_enter Tryz.func149, Tryz.ntmps149
  go_wp2
  go_ret
  have hl0 : l = [] := List.eq_nil_of_length_eq_zero (by rw [Hl.out, Hn0.out])
  exact ⟨none, 0, 0, rfl, by rw [hl0]; exact World.ownsRow_nil _ _ _ _, by rw [hl0]; rfl, Below.refl _ _⟩
 | some a =>
  have Hown0 : Hid ((w.alloc (.cells #[] 120)).ownsRow w.heap.size 120 11 (.slice (some ⟨w.heap.size, 0, none⟩) 0 0) 0 (flatH [])) :=
   World.ownsRow_made (base := w.heap.size) (e := 120) (size := 11) w #[] 0 (by simp) (by decide) rfl
  have Hr1 := Lib.hid (Hr.out.alloc (Nat.le_refl _) (.cells #[] 120))
  go_enter Tryz.func149, Tryz.ntmps149
  go_wp2_with (at_builtin; go_must (refine wpList_append_rd (w.alloc (.cells #[] 120)) (by rfl) _ _ 83 (by rfl) w.heap.size 120 i0 (.agg #[.int .u8 0, .int .u8 0, .int .u8 0, .int .u8 0, .int .u8 0, .int .u8 0, .int .u8 0, .int .u8 0, .int .i64 0, .int .i64 0, .int .i64 0]) 11 32 Tryz.underlying83 HI.out rfl (by decide) _ _ _ (by rfl) Hown0.out w.heap.size (some a) n c (flatH l) (by rfl) Hr1.out (flatH_one l) (by omega) (by omega) (by simp) ?_); intro v3 w3 hown3 hb3; have Hown3 := Lib.hid hown3; have Hb3 := Lib.hid (((Below.refl w.heap.size w).alloc (Nat.le_refl _) _).trans hb3); clear hown3 hb3)
  go_ret
  obtain ⟨A3, c3, rfl⟩ := own_form Hown3.out
  exact ⟨A3, 0 + n, c3, rfl, by have := Hown3.out; simpa [flatH] using this, by rw [Hl.out]; omega, Hb3.out⟩
set_option maxRecDepth 100000 in
set_option maxHeartbeats 2000000 in
theorem pclone_any (p : Pu) (A : Option Addr) (n c : Nat) (w : World) (h : PuV.At p A n c w) :
  Calls Tryz.prog 167 #[.agg #[.int .u8 p.nm.x0, .int .u8 p.nm.x1, .int .u8 p.nm.x2, .int .u8 p.nm.x3, .int .u8 p.nm.x4, .int .u8 p.nm.x5, .int .u8 p.nm.x6, .int .u8 p.nm.x7, .int .i64 p.no, .int .i64 p.h0, .int .i64 p.h1, .slice A n c]] w (GivesPu 120 p w) := by
 have HT0 := Lib.hid (block_alloc (heap_alloc_new w (.cells #[.int .u8 p.nm.x0, .int .u8 p.nm.x1, .int .u8 p.nm.x2, .int .u8 p.nm.x3, .int .u8 p.nm.x4, .int .u8 p.nm.x5, .int .u8 p.nm.x6, .int .u8 p.nm.x7, .int .i64 p.no, .int .i64 p.h0, .int .i64 p.h1, .slice A n c] 85)) (.cells #[.int .u8 0, .int .u8 0, .int .u8 0, .int .u8 0, .int .u8 0, .int .u8 0, .int .u8 0, .int .u8 0, .int .i64 0, .int .i64 0, .int .i64 0, .slice none 0 0] 85))
 have HT1 : Hid (((w.alloc (.cells #[.int .u8 p.nm.x0, .int .u8 p.nm.x1, .int .u8 p.nm.x2, .int .u8 p.nm.x3, .int .u8 p.nm.x4, .int .u8 p.nm.x5, .int .u8 p.nm.x6, .int .u8 p.nm.x7, .int .i64 p.no, .int .i64 p.h0, .int .i64 p.h1, .slice A n c] 85)).alloc (.cells #[.int .u8 0, .int .u8 0, .int .u8 0, .int .u8 0, .int .u8 0, .int .u8 0, .int .u8 0, .int .u8 0, .int .i64 0, .int .i64 0, .int .i64 0, .slice none 0 0] 85)).heap[w.heap.size + 1]? = some (.cells #[.int .u8 0, .int .u8 0, .int .u8 0, .int .u8 0, .int .u8 0, .int .u8 0, .int .u8 0, .int .u8 0, .int .i64 0, .int .i64 0, .int .i64 0, .slice none 0 0] 85 (0, 0))) := alloc_at (by simp)
 have Hw := Lib.hid (below_two w (.cells #[.int .u8 p.nm.x0, .int .u8 p.nm.x1, .int .u8 p.nm.x2, .int .u8 p.nm.x3, .int .u8 p.nm.x4, .int .u8 p.nm.x5, .int .u8 p.nm.x6, .int .u8 p.nm.x7, .int .i64 p.no, .int .i64 p.h0, .int .i64 p.h1, .slice A n c] 85) (.cells #[.int .u8 0, .int .u8 0, .int .u8 0, .int .u8 0, .int .u8 0, .int .u8 0, .int .u8 0, .int .u8 0, .int .i64 0, .int .i64 0, .int .i64 0, .slice none 0 0] 85))
 have Hr1 := Lib.hid (h.rd.up Hw.out (Nat.le_refl _))
 have Hm := Lib.hid h.small
 have Hz : Hid (((w.alloc (.cells #[.int .u8 p.nm.x0, .int .u8 p.nm.x1, .int .u8 p.nm.x2, .int .u8 p.nm.x3, .int .u8 p.nm.x4, .int .u8 p.nm.x5, .int .u8 p.nm.x6, .int .u8 p.nm.x7, .int .i64 p.no, .int .i64 p.h0, .int .i64 p.h1, .slice A n c] 85)).alloc (.cells #[.int .u8 0, .int .u8 0, .int .u8 0, .int .u8 0, .int .u8 0, .int .u8 0, .int .u8 0, .int .u8 0, .int .i64 0, .int .i64 0, .int .i64 0, .slice none 0 0] 85)).heap.size = w.heap.size + 2) := by show _ = _; simp
 clear h
 go_enter Tryz.func167, Tryz.ntmps167
 go_wp2_with fail
 refine (sclone_any A n c p.held _ Hr1.out Hm.out).mono ?_
 rintro e w1 ⟨A1, n1, c1, rfl, ho1, hn1, hb1⟩
 generalize ((w.alloc (.cells #[.int .u8 p.nm.x0, .int .u8 p.nm.x1, .int .u8 p.nm.x2, .int .u8 p.nm.x3, .int .u8 p.nm.x4, .int .u8 p.nm.x5, .int .u8 p.nm.x6, .int .u8 p.nm.x7, .int .i64 p.no, .int .i64 p.h0, .int .i64 p.h1, .slice A n c] 85)).alloc (.cells #[.int .u8 0, .int .u8 0, .int .u8 0, .int .u8 0, .int .u8 0, .int .u8 0, .int .u8 0, .int .u8 0, .int .i64 0, .int .i64 0, .int .i64 0, .slice none 0 0] 85)) = w0 at *
 have T0 := block_below HT0.out hb1 (by rw [Hz.out]; omega)
 have T1 := block_below HT1.out hb1 (by rw [Hz.out]; omega)
 have Hw1 := Lib.hid (Hw.out.trans (hb1.mono Hw.out.size))
 rw [Hz.out] at ho1
 have Ho1 := Lib.hid ho1
 have y := block_cell T0
 have y0 := y 0; have y1 := y 1; have y2 := y 2; have y3 := y 3; have y4 := y 4; have y5 := y 5; have y6 := y 6; have y7 := y 7; have y8 := y 8; have y9 := y 9; have y10 := y 10; have y11 := y 11
 have yf := block_free T0
 have z := block_cell T1
 have z0 := z 0; have z1 := z 1; have z2 := z 2; have z3 := z 3; have z4 := z 4; have z5 := z 5; have z6 := z 6; have z7 := z 7; have z8 := z 8; have z9 := z 9; have z10 := z 10; have z11 := z 11
 have zf := block_free T1
 simp at y0 y1 y2 y3 y4 y5 y6 y7 y8 y9 y10 y11 z0 z1 z2 z3 z4 z5 z6 z7 z8 z9 z10 z11
 clear y z T0 T1 hb1 ho1 hn1
 go_wp2
 refine bodyPost_ret (v := .agg #[.int .u8 p.nm.x0, .int .u8 p.nm.x1, .int .u8 p.nm.x2, .int .u8 p.nm.x3, .int .u8 p.nm.x4, .int .u8 p.nm.x5, .int .u8 p.nm.x6, .int .u8 p.nm.x7, .int .i64 p.no, .int .i64 p.h0, .int .i64 p.h1, .slice A1 n1 c1]) (by simp [results, Tryz.results167, go_sem, z0, z1, z2, z3, z4, z5, z6, z7, z8, z9, z10, z11]) rfl ⟨A1, n1, c1, rfl, ?_, ?_⟩
 ·refine pown_down (base := w.heap.size + 2) ?_ (by omega)
  repeat refine ownsRow_setCell_below ?_ (by first | (show w.heap.size < _; omega) | (show w.heap.size + 1 < _; omega)) _
  exact Ho1.out
 ·repeat refine Below.setCell ?_ (by first | (show w.heap.size ≤ w.heap.size; omega) | (show w.heap.size ≤ w.heap.size + 1; omega)) _
  exact Hw1.out
end Go.Proofs.YthhiookcknnmdaaGreat
