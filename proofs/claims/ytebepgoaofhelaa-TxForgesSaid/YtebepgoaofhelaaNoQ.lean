/- What a key signed in a book: the walk of Signed. Condition: room in the book. -/
import Derived.Test.YtebepgoaofhelaaNoN
namespace Go.Proofs.Ytebepgoaofhelaa
open Go.RowKit Go.Lib

set_option maxRecDepth 100000 in
set_option maxHeartbeats 2000000 in
theorem signed_any (B bk mb : Nat) (L : List En) (key : D8) (w : World) (h : BookAt w B bk mb L) (hlen : L.length < 60000) :
    Calls Try.prog 32 #[.pointer (some ⟨bk, 0, none⟩), .agg #[.int .u8 (key.x0 : Int), .int .u8 (key.x1 : Int), .int .u8 (key.x2 : Int), .int .u8 (key.x3 : Int), .int .u8 (key.x4 : Int), .int .u8 (key.x5 : Int), .int .u8 (key.x6 : Int), .int .u8 (key.x7 : Int)]] w fun r w' => ∃ A' n' c', r = .returned (.slice A' n' c') ∧ w'.ownsRow w.heap.size 23 8 (.slice A' n' c') n' (flatD (signedE L key)) ∧ Below w.heap.size w w' := by
  obtain ⟨i0, hi, hz0, hz1, hz2⟩ := info_parts info_Di
  have HI := Lib.hid (And.intro hi (And.intro hz0 (And.intro hz1 hz2))); clear hi hz0 hz1 hz2
  obtain ⟨A, n, c, hbk, hown⟩ := h.book
  have hr := Rd.of_own hown
  have Hl := Lib.hid hr.elen
  have hn : n < 60000 := by have := Hl.out; omega
  have Hr := Lib.hid hr
  have q0 := block_cell hbk 0
  have hlt := block_lt hbk
  simp at q0
  have HX0 : Hid ((w.alloc (.cells #[.int .u8 (key.x0 : Int), .int .u8 (key.x1 : Int), .int .u8 (key.x2 : Int), .int .u8 (key.x3 : Int), .int .u8 (key.x4 : Int), .int .u8 (key.x5 : Int), .int .u8 (key.x6 : Int), .int .u8 (key.x7 : Int)] 23)).heap[w.heap.size]? = some (.cells #[.int .u8 (key.x0 : Int), .int .u8 (key.x1 : Int), .int .u8 (key.x2 : Int), .int .u8 (key.x3 : Int), .int .u8 (key.x4 : Int), .int .u8 (key.x5 : Int), .int .u8 (key.x6 : Int), .int .u8 (key.x7 : Int)] 23 (0, 0))) := heap_alloc_new w _
  have Hb0 := Lib.hid (below_one w (.cells #[.int .u8 (key.x0 : Int), .int .u8 (key.x1 : Int), .int .u8 (key.x2 : Int), .int .u8 (key.x3 : Int), .int .u8 (key.x4 : Int), .int .u8 (key.x5 : Int), .int .u8 (key.x6 : Int), .int .u8 (key.x7 : Int)] 23))
  have heq := eql_dig
  clear h hbk hown hr hlen
  go_enter Try.func32, Try.ntmps32
  go_wp2
  go_loopw [5, 15] (fun v5 i wr => ∃ (k n5 : Nat), k ≤ n ∧ i = .int .i64 (k : Int) ∧ n5 ≤ k ∧ Hid (wr.ownsRow (w.heap.size + 1) 23 8 v5 n5 (flatD (signedE (L.take k) key))) ∧ Hid (wr.heap[w.heap.size]? = some (.cells #[.int .u8 (key.x0 : Int), .int .u8 (key.x1 : Int), .int .u8 (key.x2 : Int), .int .u8 (key.x3 : Int), .int .u8 (key.x4 : Int), .int .u8 (key.x5 : Int), .int .u8 (key.x6 : Int), .int .u8 (key.x7 : Int)] 23 (0, 0))) ∧ Hid (Below w.heap.size w wr) ∧ Hid (w.heap.size + 1 ≤ wr.heap.size)) (fun _ i _ => n - (Lib.intOf i).toNat)
  case atStart => exact ⟨0, 0, Nat.zero_le _, rfl, Nat.le_refl _, Lib.hid (World.ownsRow_nil _ _ _ _), HX0, Hb0, Lib.hid (by simp)⟩
  case round =>
    obtain ⟨k, n5, hk, rfl, hn5, Hown, HX, Hb, Hsz⟩ := hrel
    obtain ⟨A', c', rfl⟩ := own_form Hown.out
    by_cases hkt : k < n
    · obtain ⟨b, o, rfl, hbB, x⟩ := (Hr.out.below Hb.out (Nat.le_refl _)).en hkt
      have Hy := Lib.hid (signedE_yes (L := L) (k := k) (key := key) (by have := Hl.out; omega))
      have Hno := Lib.hid (signedE_no (L := L) (k := k) (key := key) (by have := Hl.out; omega))
      generalize L.getD k default = d at *
      have hsz : w.heap.size < wr.heap.size := Hsz.out
      have x0 := x 0 (by decide); have x1 := x 1 (by decide); have x2 := x 2 (by decide); have x3 := x 3 (by decide); have x4 := x 4 (by decide); have x5 := x 5 (by decide); have x6 := x 6 (by decide); have x7 := x 7 (by decide)
      have x8 := x 8 (by decide); have x9 := x 9 (by decide); have x10 := x 10 (by decide); have x11 := x 11 (by decide); have x12 := x 12 (by decide); have x13 := x 13 (by decide); have x14 := x 14 (by decide); have x15 := x 15 (by decide)
      simp [En.cells] at x0 x1 x2 x3 x4 x5 x6 x7 x8 x9 x10 x11 x12 x13 x14 x15
      clear x
      have hd1 : decide ((k : Int) < (n : Int)) = true := decide_eq_true (by omega)
      have hi0 : (0 : Int) ≤ (k : Int) := by omega
      have hi1 : (k : Int) < (n : Int) := by omega
      have HX2 := Lib.hid (block_alloc HX.out (.cells #[.int .u8 (d.key.x0 : Int), .int .u8 (d.key.x1 : Int), .int .u8 (d.key.x2 : Int), .int .u8 (d.key.x3 : Int), .int .u8 (d.key.x4 : Int), .int .u8 (d.key.x5 : Int), .int .u8 (d.key.x6 : Int), .int .u8 (d.key.x7 : Int), .int .u8 (d.msg.x0 : Int), .int .u8 (d.msg.x1 : Int), .int .u8 (d.msg.x2 : Int), .int .u8 (d.msg.x3 : Int), .int .u8 (d.msg.x4 : Int), .int .u8 (d.msg.x5 : Int), .int .u8 (d.msg.x6 : Int), .int .u8 (d.msg.x7 : Int)] 102))
      have HE2 : Hid ((wr.alloc (.cells #[.int .u8 (d.key.x0 : Int), .int .u8 (d.key.x1 : Int), .int .u8 (d.key.x2 : Int), .int .u8 (d.key.x3 : Int), .int .u8 (d.key.x4 : Int), .int .u8 (d.key.x5 : Int), .int .u8 (d.key.x6 : Int), .int .u8 (d.key.x7 : Int), .int .u8 (d.msg.x0 : Int), .int .u8 (d.msg.x1 : Int), .int .u8 (d.msg.x2 : Int), .int .u8 (d.msg.x3 : Int), .int .u8 (d.msg.x4 : Int), .int .u8 (d.msg.x5 : Int), .int .u8 (d.msg.x6 : Int), .int .u8 (d.msg.x7 : Int)] 102)).heap[wr.heap.size]? = some (.cells #[.int .u8 (d.key.x0 : Int), .int .u8 (d.key.x1 : Int), .int .u8 (d.key.x2 : Int), .int .u8 (d.key.x3 : Int), .int .u8 (d.key.x4 : Int), .int .u8 (d.key.x5 : Int), .int .u8 (d.key.x6 : Int), .int .u8 (d.key.x7 : Int), .int .u8 (d.msg.x0 : Int), .int .u8 (d.msg.x1 : Int), .int .u8 (d.msg.x2 : Int), .int .u8 (d.msg.x3 : Int), .int .u8 (d.msg.x4 : Int), .int .u8 (d.msg.x5 : Int), .int .u8 (d.msg.x6 : Int), .int .u8 (d.msg.x7 : Int)] 102 (0, 0))) := heap_alloc_new wr _
      have Hown2 := Lib.hid (Hown.out.alloc (.cells #[.int .u8 (d.key.x0 : Int), .int .u8 (d.key.x1 : Int), .int .u8 (d.key.x2 : Int), .int .u8 (d.key.x3 : Int), .int .u8 (d.key.x4 : Int), .int .u8 (d.key.x5 : Int), .int .u8 (d.key.x6 : Int), .int .u8 (d.key.x7 : Int), .int .u8 (d.msg.x0 : Int), .int .u8 (d.msg.x1 : Int), .int .u8 (d.msg.x2 : Int), .int .u8 (d.msg.x3 : Int), .int .u8 (d.msg.x4 : Int), .int .u8 (d.msg.x5 : Int), .int .u8 (d.msg.x6 : Int), .int .u8 (d.msg.x7 : Int)] 102))
      have Hb2 := Lib.hid (Hb.out.alloc Hb.out.size (.cells #[.int .u8 (d.key.x0 : Int), .int .u8 (d.key.x1 : Int), .int .u8 (d.key.x2 : Int), .int .u8 (d.key.x3 : Int), .int .u8 (d.key.x4 : Int), .int .u8 (d.key.x5 : Int), .int .u8 (d.key.x6 : Int), .int .u8 (d.key.x7 : Int), .int .u8 (d.msg.x0 : Int), .int .u8 (d.msg.x1 : Int), .int .u8 (d.msg.x2 : Int), .int .u8 (d.msg.x3 : Int), .int .u8 (d.msg.x4 : Int), .int .u8 (d.msg.x5 : Int), .int .u8 (d.msg.x6 : Int), .int .u8 (d.msg.x7 : Int)] 102))
      have Hsz2 : Hid (w.heap.size + 1 ≤ (wr.alloc (.cells #[.int .u8 (d.key.x0 : Int), .int .u8 (d.key.x1 : Int), .int .u8 (d.key.x2 : Int), .int .u8 (d.key.x3 : Int), .int .u8 (d.key.x4 : Int), .int .u8 (d.key.x5 : Int), .int .u8 (d.key.x6 : Int), .int .u8 (d.key.x7 : Int), .int .u8 (d.msg.x0 : Int), .int .u8 (d.msg.x1 : Int), .int .u8 (d.msg.x2 : Int), .int .u8 (d.msg.x3 : Int), .int .u8 (d.msg.x4 : Int), .int .u8 (d.msg.x5 : Int), .int .u8 (d.msg.x6 : Int), .int .u8 (d.msg.x7 : Int)] 102)).heap.size) := Lib.hid (by rw [World.size_alloc]; omega)
      have z := block_cell HX.out
      have z0 := z 0; have z1 := z 1; have z2 := z 2; have z3 := z 3; have z4 := z 4; have z5 := z 5; have z6 := z 6; have z7 := z 7
      simp at z0 z1 z2 z3 z4 z5 z6 z7
      clear z
      cases hp : isK key d with
      | true =>
        have hpp : eqI [(d.key.x0 : Int), (d.key.x1 : Int), (d.key.x2 : Int), (d.key.x3 : Int), (d.key.x4 : Int), (d.key.x5 : Int), (d.key.x6 : Int), (d.key.x7 : Int)] [(key.x0 : Int), (key.x1 : Int), (key.x2 : Int), (key.x3 : Int), (key.x4 : Int), (key.x5 : Int), (key.x6 : Int), (key.x7 : Int)] = true := hp
        have Hp := Lib.hid hp
        clear hp
        go_wp2_with (at_builtin; go_must (refine wpList_append_lit (wr.alloc (.cells #[.int .u8 (d.key.x0 : Int), .int .u8 (d.key.x1 : Int), .int .u8 (d.key.x2 : Int), .int .u8 (d.key.x3 : Int), .int .u8 (d.key.x4 : Int), .int .u8 (d.key.x5 : Int), .int .u8 (d.key.x6 : Int), .int .u8 (d.key.x7 : Int), .int .u8 (d.msg.x0 : Int), .int .u8 (d.msg.x1 : Int), .int .u8 (d.msg.x2 : Int), .int .u8 (d.msg.x3 : Int), .int .u8 (d.msg.x4 : Int), .int .u8 (d.msg.x5 : Int), .int .u8 (d.msg.x6 : Int), .int .u8 (d.msg.x7 : Int)] 102)) (by rfl) _ _ 66 (by rfl) (w.heap.size + 1) 23 i0 (.agg #[.int .u8 0, .int .u8 0, .int .u8 0, .int .u8 0, .int .u8 0, .int .u8 0, .int .u8 0, .int .u8 0]) 8 8 Try.underlying66 HI.out rfl (by decide) _ _ _ (by rfl) Hown2.out 1 1 #[.int .u8 (d.msg.x0 : Int), .int .u8 (d.msg.x1 : Int), .int .u8 (d.msg.x2 : Int), .int .u8 (d.msg.x3 : Int), .int .u8 (d.msg.x4 : Int), .int .u8 (d.msg.x5 : Int), .int .u8 (d.msg.x6 : Int), .int .u8 (d.msg.x7 : Int)] 23 (by simp [Act.eval]) rfl (by simp [Value.oneCell']) (by omega) (by omega) (by simp; omega) ?_); intro v5 w5 hown5 hbel5; have Hown5 := Lib.hid hown5; have Hb5 := Lib.hid (Hb2.out.trans (hbel5.mono (by omega))); have HX5 := Lib.hid (block_below HX2.out hbel5 (by omega)); have Hsz5 := Lib.hid (Nat.le_trans Hsz2.out hbel5.size); clear hown5 hbel5)
        go_roundw
        case rel => exact ⟨k + 1, n5 + 1, by omega, by go_num, by omega, by rw [Hy.out Hp.out, flatD_append]; exact Hown5, HX5, Hb5, Hsz5⟩
        case measure => simp [Lib.intOf]; omega
      | false =>
        have hpp : eqI [(d.key.x0 : Int), (d.key.x1 : Int), (d.key.x2 : Int), (d.key.x3 : Int), (d.key.x4 : Int), (d.key.x5 : Int), (d.key.x6 : Int), (d.key.x7 : Int)] [(key.x0 : Int), (key.x1 : Int), (key.x2 : Int), (key.x3 : Int), (key.x4 : Int), (key.x5 : Int), (key.x6 : Int), (key.x7 : Int)] = false := hp
        have Hp := Lib.hid hp
        clear hp
        go_wp2
        go_roundw
        case rel => exact ⟨k + 1, n5, by omega, by go_num, by omega, by rw [Hno.out Hp.out]; exact Hown2, HX2, Hb2, Hsz2⟩
        case measure => simp [Lib.intOf]; omega
    · have hkn : k = n := by omega
      subst hkn
      have hd1 : decide ((k : Int) < (k : Int)) = false := by simp
      clear hkt
      go_wp2
      go_ret
      have e : L.take k = L := List.take_of_length_le (by have := Hl.out; omega)
      have ho := Hown.out
      rw [e] at ho
      exact ⟨A', n5, c', rfl, own_weak ho (by omega), Hb.out⟩
end Go.Proofs.Ytebepgoaofhelaa
