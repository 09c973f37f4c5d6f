/- The walks of Own and Back (layer 47): a purse carried from the reference's type to the program's and back. Conditions: bounds. -/
import Derived.Test.YthjpaclcoipocaaPuB
import Derived.Lib.SmallJoins
namespace Go.Proofs.Ythjpaclcoipocaa
open Go.RowKit Go.Lib

theorem great_any (p : Pu) (A : Option Addr) (n c : Nat) (w : World) : Calls Try.prog 4 #[.agg #[.int .u8 (p.nm.x0 : Int), .int .u8 (p.nm.x1 : Int), .int .u8 (p.nm.x2 : Int), .int .u8 (p.nm.x3 : Int), .int .u8 (p.nm.x4 : Int), .int .u8 (p.nm.x5 : Int), .int .u8 (p.nm.x6 : Int), .int .u8 (p.nm.x7 : Int), .int .i64 p.no, .int .i64 p.h0, .int .i64 p.h1, .slice A n c]] w fun e w' => e = .returned (.bool (decide (40 < n))) ∧ Below w.heap.size w w' := by
  by_cases h : 40 < n
  · have b1 : decide ((40 : Int) < (n : Int)) = true := decide_eq_true (by omega)
    have Hr : Hid (decide (40 < n) = true) := decide_eq_true h
    clear h
    go_enter Try.func4, Try.ntmps4
    go_wp2
    go_ret
    exact ⟨ret_bool Hr.out.symm, below_one _ _⟩
  · have b1 : decide ((40 : Int) < (n : Int)) = false := decide_eq_false (by omega)
    have Hr : Hid (decide (40 < n) = false) := decide_eq_false h
    clear h
    go_enter Try.func4, Try.ntmps4
    go_wp2
    go_ret
    exact ⟨ret_bool Hr.out.symm, below_one _ _⟩
theorem pgrown_set {w : World} (b i : Nat) (v : Value) : w.grownBy (w.setCell ⟨b, i, none⟩ v) (some b) :=
  ⟨rfl, rfl, rfl, by simp, fun k _ hne => Below.heap_setCell w ⟨b, i, none⟩ v k (fun e => hne (by rw [e]))⟩
theorem pown_down {w : World} {base base' : Nat} {e : TypeId} {sz n : Nat} {v : Value} {xs : List Value} (h : w.ownsRow base e sz v n xs) (hb : base' ≤ base) : w.ownsRow base' e sz v n xs := by
  refine ⟨h.1, ?_⟩
  rcases h.2 with h2 | ⟨g, cap, cur, h3, h4, h5⟩
  · exact .inl h2
  · exact .inr ⟨g, cap, cur, h3, Nat.le_trans hb h4, h5⟩
theorem alloc_at {w : World} {x : Obj} {k : Nat} (hk : k = w.heap.size) : (w.alloc x).heap[k]? = some x := by subst hk; exact heap_alloc_new w x
theorem info_Held : (Try.prog.info? 56).map (fun i => (i.zero, i.size, i.bytes)) = some (some (.agg #[.int .u8 0, .int .u8 0, .int .u8 0, .int .u8 0, .int .u8 0, .int .u8 0, .int .u8 0, .int .u8 0, .int .i64 0, .int .i64 0, .int .i64 0]), 11, 32) := by kernel_rfl
theorem info_HeldR : (Try.prog.info? 60).map (fun i => (i.zero, i.size, i.bytes)) = some (some (.agg #[.int .u8 0, .int .u8 0, .int .u8 0, .int .u8 0, .int .u8 0, .int .u8 0, .int .u8 0, .int .u8 0, .int .i64 0, .int .i64 0, .int .i64 0]), 11, 32) := by kernel_rfl
/-- A purse handed back, its held ones in a row of the call's own. -/
def GivesPu (te : TypeId) (p : Pu) (w : World) (e : Ending) (w' : World) : Prop :=
  ∃ A n c, e = .returned (.agg #[.int .u8 (p.nm.x0 : Int), .int .u8 (p.nm.x1 : Int), .int .u8 (p.nm.x2 : Int), .int .u8 (p.nm.x3 : Int), .int .u8 (p.nm.x4 : Int), .int .u8 (p.nm.x5 : Int), .int .u8 (p.nm.x6 : Int), .int .u8 (p.nm.x7 : Int), .int .i64 p.no, .int .i64 p.h0, .int .i64 p.h1, .slice A n c]) ∧ w'.ownsRow w.heap.size te 11 (.slice A n c) n (flatH p.held) ∧ Below w.heap.size w w'
set_option maxRecDepth 100000 in
set_option maxHeartbeats 2000000 in
theorem own_any (p : Pu) (A : Option Addr) (n c : Nat) (w : World) (h : PuV.At p A n c w) :
    Calls Try.prog 6 #[.agg #[.int .u8 (p.nm.x0 : Int), .int .u8 (p.nm.x1 : Int), .int .u8 (p.nm.x2 : Int), .int .u8 (p.nm.x3 : Int), .int .u8 (p.nm.x4 : Int), .int .u8 (p.nm.x5 : Int), .int .u8 (p.nm.x6 : Int), .int .u8 (p.nm.x7 : Int), .int .i64 p.no, .int .i64 p.h0, .int .i64 p.h1, .slice A n c]] w (GivesPu 56 p w) := by
  obtain ⟨i0, hi, hz0, hz1, hz2⟩ := info_parts info_Held
  have HI := Lib.hid (And.intro hi (And.intro hz0 (And.intro hz1 hz2))); clear hi hz0 hz1 hz2
  have Hl := Lib.hid h.rd.hlen
  have Hr := Lib.hid h.rd
  have hsm := h.small
  clear h
  go_enter Try.func6, Try.ntmps6
  go_wp2
  go_loopw [4] (fun i wr => ∃ (k : Nat) (A' : Option Addr) (c' : Nat), k ≤ n ∧ i = .int .i64 (k : Int) ∧ wr.heap[w.heap.size]? = some (.cells #[.int .u8 (p.nm.x0 : Int), .int .u8 (p.nm.x1 : Int), .int .u8 (p.nm.x2 : Int), .int .u8 (p.nm.x3 : Int), .int .u8 (p.nm.x4 : Int), .int .u8 (p.nm.x5 : Int), .int .u8 (p.nm.x6 : Int), .int .u8 (p.nm.x7 : Int), .int .i64 p.no, .int .i64 p.h0, .int .i64 p.h1, .slice A n c] 26 (0, 0)) ∧ wr.heap[w.heap.size + 1]? = some (.cells #[.int .u8 0, .int .u8 0, .int .u8 0, .int .u8 0, .int .u8 0, .int .u8 0, .int .u8 0, .int .u8 0, .int .i64 0, .int .i64 0, .int .i64 0, .slice none 0 0] 35 (0, 0)) ∧
    wr.heap[w.heap.size + 2]? = some (.cells #[.int .u8 (p.nm.x0 : Int), .int .u8 (p.nm.x1 : Int), .int .u8 (p.nm.x2 : Int), .int .u8 (p.nm.x3 : Int), .int .u8 (p.nm.x4 : Int), .int .u8 (p.nm.x5 : Int), .int .u8 (p.nm.x6 : Int), .int .u8 (p.nm.x7 : Int), .int .i64 p.no, .int .i64 p.h0, .int .i64 p.h1, .slice A' k c'] 35 (0, 0)) ∧ wr.ownsRow (w.heap.size + 3) 56 11 (.slice A' k c') k (flatH (p.held.take k)) ∧ Below w.heap.size w wr ∧ w.heap.size + 3 ≤ wr.heap.size) (fun i _ => n - (intOf i).toNat)
  case atStart =>
    exact ⟨0, none, 0, Nat.zero_le _, rfl, block_alloc (block_alloc (heap_alloc_new _ _) _) _, block_alloc (alloc_at (by simp)) _, alloc_at (by simp), by simpa [flatH] using World.ownsRow_nil _ _ _ _, (below_two w _ _).alloc (by simp; omega) _, by simp⟩
  case round =>
    obtain ⟨k, A', c', hk, rfl, h0, h1, h2, hown, hbel, hsz⟩ := hrel
    have H0 := Lib.hid h0; have H1 := Lib.hid h1; have H2 := Lib.hid h2
    by_cases hlt : k < n
    · obtain ⟨b, o, rfl, hbB, x0, x1, x2, x3, x4, x5, x6, x7, x8, x9, x10⟩ := (Hr.out.below hbel (Nat.le_refl _)).hd hlt
      have Ht := Lib.hid (take_hd (l := p.held) (k := k) (by have := Hl.out; omega))
      generalize p.held.getD k default = h at *
      have Hown := Lib.hid (hown.alloc (.cells #[.int .u8 (h.nm.x0 : Int), .int .u8 (h.nm.x1 : Int), .int .u8 (h.nm.x2 : Int), .int .u8 (h.nm.x3 : Int), .int .u8 (h.nm.x4 : Int), .int .u8 (h.nm.x5 : Int), .int .u8 (h.nm.x6 : Int), .int .u8 (h.nm.x7 : Int), .int .i64 h.am, .int .i64 h.fr, .int .i64 h.un] 60))
      have Hbel := Lib.hid (hbel.alloc (by omega) (.cells #[.int .u8 (h.nm.x0 : Int), .int .u8 (h.nm.x1 : Int), .int .u8 (h.nm.x2 : Int), .int .u8 (h.nm.x3 : Int), .int .u8 (h.nm.x4 : Int), .int .u8 (h.nm.x5 : Int), .int .u8 (h.nm.x6 : Int), .int .u8 (h.nm.x7 : Int), .int .i64 h.am, .int .i64 h.fr, .int .i64 h.un] 60))
      have y11 := block_cell h0 11
      have z11 := block_cell h2 11
      simp at y11 z11
      have H0a := Lib.hid (block_alloc h0 (.cells #[.int .u8 (h.nm.x0 : Int), .int .u8 (h.nm.x1 : Int), .int .u8 (h.nm.x2 : Int), .int .u8 (h.nm.x3 : Int), .int .u8 (h.nm.x4 : Int), .int .u8 (h.nm.x5 : Int), .int .u8 (h.nm.x6 : Int), .int .u8 (h.nm.x7 : Int), .int .i64 h.am, .int .i64 h.fr, .int .i64 h.un] 60)); have H1a := Lib.hid (block_alloc h1 (.cells #[.int .u8 (h.nm.x0 : Int), .int .u8 (h.nm.x1 : Int), .int .u8 (h.nm.x2 : Int), .int .u8 (h.nm.x3 : Int), .int .u8 (h.nm.x4 : Int), .int .u8 (h.nm.x5 : Int), .int .u8 (h.nm.x6 : Int), .int .u8 (h.nm.x7 : Int), .int .i64 h.am, .int .i64 h.fr, .int .i64 h.un] 60)); have H2a := Lib.hid (block_alloc h2 (.cells #[.int .u8 (h.nm.x0 : Int), .int .u8 (h.nm.x1 : Int), .int .u8 (h.nm.x2 : Int), .int .u8 (h.nm.x3 : Int), .int .u8 (h.nm.x4 : Int), .int .u8 (h.nm.x5 : Int), .int .u8 (h.nm.x6 : Int), .int .u8 (h.nm.x7 : Int), .int .i64 h.am, .int .i64 h.fr, .int .i64 h.un] 60))
      have hi0 : (0 : Int) ≤ (k : Int) := by omega
      have hi1 : (k : Int) < (n : Int) := by omega
      have hB : w.heap.size + 2 < wr.heap.size := by omega
      clear hown hbel h0 h1 h2
      go_wp2_with (at_builtin; go_must (refine wpList_append_lit (wr.alloc (.cells #[.int .u8 (h.nm.x0 : Int), .int .u8 (h.nm.x1 : Int), .int .u8 (h.nm.x2 : Int), .int .u8 (h.nm.x3 : Int), .int .u8 (h.nm.x4 : Int), .int .u8 (h.nm.x5 : Int), .int .u8 (h.nm.x6 : Int), .int .u8 (h.nm.x7 : Int), .int .i64 h.am, .int .i64 h.fr, .int .i64 h.un] 60)) (by rfl) _ _ 33 (by rfl) (w.heap.size + 3) 56 i0 (.agg #[.int .u8 0, .int .u8 0, .int .u8 0, .int .u8 0, .int .u8 0, .int .u8 0, .int .u8 0, .int .u8 0, .int .i64 0, .int .i64 0, .int .i64 0]) 11 32 Try.underlying33 HI.out rfl (by decide) _ _ _ (by rfl) Hown.out 1 1 #[.int .u8 (h.nm.x0 : Int), .int .u8 (h.nm.x1 : Int), .int .u8 (h.nm.x2 : Int), .int .u8 (h.nm.x3 : Int), .int .u8 (h.nm.x4 : Int), .int .u8 (h.nm.x5 : Int), .int .u8 (h.nm.x6 : Int), .int .u8 (h.nm.x7 : Int), .int .i64 h.am, .int .i64 h.fr, .int .i64 h.un] 56 (by simp [Act.eval]) rfl (by simp [Value.oneCell']) (by omega) (by omega) (by simp; omega) ?_); intro v4 w4 hown4 hbel4; obtain ⟨A4, c4, rfl⟩ := own_form hown4; have H0b := Lib.hid (block_below H0a.out hbel4 (by omega)); have H1b := Lib.hid (block_below H1a.out hbel4 (by omega)); have H2b := Lib.hid (block_below H2a.out hbel4 (by omega)); have u11 := block_cell H2b.out 11; have uf := block_free H2b.out; simp at u11; have Hown4 := Lib.hid hown4; have hz4 := hbel4.size; have Hbel4 := Lib.hid (Hbel.out.trans (hbel4.mono (by omega))); clear hown4 hbel4)
      go_roundw
      case rel =>
        have hz := hz4
        simp at hz
        refine ⟨k + 1, A4, c4, by omega, by go_num, ?_, ?_, ?_, ?_, Hbel4.out.setCell (by show w.heap.size ≤ w.heap.size + 2; omega) _, by simp; omega⟩
        · exact ((pgrown_set (w := w4) _ 11 _).block _ (by omega) (by simp; omega)).trans H0b.out
        · exact ((pgrown_set (w := w4) _ 11 _).block _ (by omega) (by simp)).trans H1b.out
        · have := Joins.block_setCell (i := 11) H2b.out (.slice A4 (k + 1) c4)
          simpa using this
        · rw [Ht.out, flatH_append]
          exact ownsRow_setCell_below Hown4.out (by show w.heap.size + 2 < _; omega) _
      case measure => simp [intOf]; omega
    · have hkn : k = n := by omega
      have Hown := Lib.hid hown; have Hbel := Lib.hid hbel; have Hk := Lib.hid hkn
      have y11 := block_cell h0 11; simp at y11
      have z := block_cell h2
      have z0 := z 0; have z1 := z 1; have z2 := z 2; have z3 := z 3; have z4 := z 4; have z5 := z 5; have z6 := z 6; have z7 := z 7; have z8 := z 8; have z9 := z 9; have z10 := z 10; have z11 := z 11
      have u := block_cell h1
      have u0 := u 0; have u1 := u 1; have u2 := u 2; have u3 := u 3; have u4 := u 4; have u5 := u 5; have u6 := u 6; have u7 := u 7; have u8 := u 8; have u9 := u 9; have u10 := u 10; have u11 := u 11
      have uf := block_free h1
      simp at z0 z1 z2 z3 z4 z5 z6 z7 z8 z9 z10 z11 u0 u1 u2 u3 u4 u5 u6 u7 u8 u9 u10 u11
      clear hown hbel hkn h0 h1 h2 z u
      go_wp2
      have e : p.held.take k = p.held := List.take_of_length_le (by have := Hl.out; have := Hk.out; omega)
      refine bodyPost_ret (v := .agg #[.int .u8 (p.nm.x0 : Int), .int .u8 (p.nm.x1 : Int), .int .u8 (p.nm.x2 : Int), .int .u8 (p.nm.x3 : Int), .int .u8 (p.nm.x4 : Int), .int .u8 (p.nm.x5 : Int), .int .u8 (p.nm.x6 : Int), .int .u8 (p.nm.x7 : Int), .int .i64 p.no, .int .i64 p.h0, .int .i64 p.h1, .slice A' k c']) (by simp [results, Try.results6, go_sem, u0, u1, u2, u3, u4, u5, u6, u7, u8, u9, u10, u11]) rfl ⟨A', k, c', rfl, ?_, ?_⟩
      · have hh := pown_down Hown.out (show w.heap.size ≤ w.heap.size + 3 by omega)
        rw [e] at hh
        refine pown_down (base := w.heap.size + 3) ?_ (by omega)
        rw [← e]
        repeat refine ownsRow_setCell_below ?_ (by show w.heap.size + 1 < _; omega) _
        exact Hown.out
      · repeat refine Below.setCell ?_ (by show w.heap.size ≤ w.heap.size + 1; omega) _
        exact Hbel.out
end Go.Proofs.Ythjpaclcoipocaa
