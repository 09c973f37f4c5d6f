/- The walks of the reference of transactions: who gets how much, what is wrong. Conditions: bounds on how many bytes. -/
import Derived.Test.YtebepgoaofhelaaTxC
import Derived.Test.YtebepgoaofhelaaDigEq
import Derived.RegionTactic
import Derived.ChangeAlike
namespace Go.Proofs.Ytebepgoaofhelaa
open Go.RowKit Go.Lib


set_option maxRecDepth 100000 in
theorem of_any (t : TxV) (w : World) : Calls Try.prog 13 #[.agg #[.int .u8 (t.d.x0 : Int), .int .u8 (t.d.x1 : Int), .int .u8 (t.d.x2 : Int), .int .u8 (t.d.x3 : Int), .int .u8 (t.d.x4 : Int), .int .u8 (t.d.x5 : Int), .int .u8 (t.d.x6 : Int), .int .u8 (t.d.x7 : Int), .int .i64 t.no, .int .i64 t.fe, .int .i64 t.ki, .slice t.A t.n t.c, .slice t.A' t.n' t.c']] w fun e w' => e = .returned (.agg #[.int .u8 (t.d.x0 : Int), .int .u8 (t.d.x1 : Int), .int .u8 (t.d.x2 : Int), .int .u8 (t.d.x3 : Int), .int .u8 (t.d.x4 : Int), .int .u8 (t.d.x5 : Int), .int .u8 (t.d.x6 : Int), .int .u8 (t.d.x7 : Int), .int .i64 t.no, .int .i64 t.fe, .int .i64 t.ki, .slice t.A t.n t.c, .slice t.A' t.n' t.c']) ∧ Below w.heap.size w w' := by
  go_enter Try.func13, Try.ntmps13
  go_wp2
  exact bodyPost_ret (v := .agg #[.int .u8 (t.d.x0 : Int), .int .u8 (t.d.x1 : Int), .int .u8 (t.d.x2 : Int), .int .u8 (t.d.x3 : Int), .int .u8 (t.d.x4 : Int), .int .u8 (t.d.x5 : Int), .int .u8 (t.d.x6 : Int), .int .u8 (t.d.x7 : Int), .int .i64 t.no, .int .i64 t.fe, .int .i64 t.ki, .slice t.A t.n t.c, .slice t.A' t.n' t.c']) (by simp [results, Try.results13, go_sem]) rfl ⟨rfl, below_two _ _ _⟩
theorem set3 {w : World} {b : Nat} {x y z : Value} {T : TypeId} (h : w.heap[b]? = some (.cells #[x, y, z] T (0, 0))) (x' y' z' : Value) :
    (((w.setCell ⟨b, 0, none⟩ x').setCell ⟨b, 1, none⟩ y').setCell ⟨b, 2, none⟩ z').heap[b]? = some (.cells #[x', y', z'] T (0, 0)) ∧ w.grownBy (((w.setCell ⟨b, 0, none⟩ x').setCell ⟨b, 1, none⟩ y').setCell ⟨b, 2, none⟩ z') (some b) := by
  refine ⟨?_, grown_trans (grown_trans (grown_set _ _ _) (grown_set _ _ _)) (grown_set _ _ _)⟩
  have := Joins.block_setCell (i := 2) (Joins.block_setCell (i := 1) (Joins.block_setCell (i := 0) h x') y') z'
  simpa using this
theorem paid_ref (bo : List Nat) :
    paidT 0 bo = if (numRS (numRS ⟨bo, 0, 0⟩ 18446744073709551615).1 18446744073709551615).1.err ≠ 0 then (d0, 0, (numRS (numRS ⟨bo, 0, 0⟩ 18446744073709551615).1 18446744073709551615).1.err)
      else if 1125899906842624 < (numRS (numRS ⟨bo, 0, 0⟩ 18446744073709551615).1 18446744073709551615).2 then (d0, 0, 2)
      else if (numRS (numRS ⟨bo, 0, 0⟩ 18446744073709551615).1 18446744073709551615).1.at_ < bo.length then (d0, 0, 5)
      else (D8.of (numRS ⟨bo, 0, 0⟩ 18446744073709551615).2, ((numRS (numRS ⟨bo, 0, 0⟩ 18446744073709551615).1 18446744073709551615).2 : Int), 0) := by
  have hl := numRS_l ⟨bo, 0, 0⟩ 18446744073709551615
  unfold paidT
  rw [if_pos rfl]
  simp only
  generalize numRS ⟨bo, 0, 0⟩ 18446744073709551615 = r1 at *
  obtain ⟨⟨l, at_, err⟩, v1⟩ := r1
  simp only at hl
  subst hl
  simp only
  by_cases he : err = 0
  · subst he
    by_cases h1 : (lookN (l.drop at_)).2.2 = 0
    · have e1 : numRS ⟨l, at_, 0⟩ 18446744073709551615 = (⟨l, at_ + (lookN (l.drop at_)).2.1, 0⟩, (lookN (l.drop at_)).1) := by unfold numRS; simp [take1_all, h1]
      rw [e1]
      by_cases h2 : 1125899906842624 < (lookN (l.drop at_)).1
      · have e2 : numRS ⟨l, at_, 0⟩ 1125899906842624 = (⟨l, at_, 2⟩, 0) := by unfold numRS; simp [take1, h1, h2]
        rw [e2]
        simp [endRS, h2]
      · have e2 : numRS ⟨l, at_, 0⟩ 1125899906842624 = (⟨l, at_ + (lookN (l.drop at_)).2.1, 0⟩, (lookN (l.drop at_)).1) := by unfold numRS; simp [take1, h1, h2]
        rw [e2]
        simp only [endRS, h2, ne_eq, not_true_eq_false, if_false]
        by_cases h3 : at_ + (lookN (l.drop at_)).2.1 < l.length
        · rw [if_pos h3]; simp; exact h3
        · rw [if_neg h3]; simp; omega
    · have e1 : ∀ m, numRS ⟨l, at_, 0⟩ m = (⟨l, at_, (lookN (l.drop at_)).2.2⟩, 0) := by intro m; unfold numRS; simp [take1, h1]
      rw [e1, e1]
      simp [endRS, h1]
  · have e1 : ∀ m, numRS ⟨l, at_, err⟩ m = (⟨l, at_, err⟩, 0) := by intro m; unfold numRS; simp [he]
    rw [e1, e1]
    simp [endRS, he]
set_option maxRecDepth 100000 in
set_option maxHeartbeats 2000000 in
theorem paidr_any (t : TxV) (w : World) (h : t.At w) : Calls Try.prog 12 #[.agg #[.int .u8 (t.d.x0 : Int), .int .u8 (t.d.x1 : Int), .int .u8 (t.d.x2 : Int), .int .u8 (t.d.x3 : Int), .int .u8 (t.d.x4 : Int), .int .u8 (t.d.x5 : Int), .int .u8 (t.d.x6 : Int), .int .u8 (t.d.x7 : Int), .int .i64 t.no, .int .i64 t.fe, .int .i64 t.ki, .slice t.A t.n t.c, .slice t.A' t.n' t.c']] w (GivesPaid w (paidT t.ki t.bo)) := by
  have H := Lib.hid h
  clear h
  by_cases hk : t.ki = 0
  · have b1 : (t.ki != 0) = false := by simpa using hk
    have Hp0 : Hid (paidT t.ki t.bo = paidT 0 t.bo) := by show _ = _; rw [hk]
    have Hp := Lib.hid (paid_ref t.bo)
    clear hk
    have hl1 := numRS_l ⟨t.bo, 0, 0⟩ 18446744073709551615
    have hl2 := numRS_l (numRS ⟨t.bo, 0, 0⟩ 18446744073709551615).1 18446744073709551615
    have hv1 := numRS_le ⟨t.bo, 0, 0⟩ 18446744073709551615
    have hlen := H.out.len1
    have hat1 := numRS_at ⟨t.bo, 0, 0⟩ 18446744073709551615 (by simp)
    have hat2 := numRS_at (numRS ⟨t.bo, 0, 0⟩ 18446744073709551615).1 18446744073709551615 hat1
    have Hv1 := Lib.hid hv1
    clear hv1
    go_enter Try.func12, Try.ntmps12
    go_wp2_with fail
    refine (readr_at t.A t.n t.c _ ⟨t.bo, 0, 0⟩ _ ?_ H.out.c1 (by have := H.out.m1; omega) (by simp) H.out.b1 (by omega)).mono ?_
    · exact H.out.r1.up ((below_two _ _ _).alloc (by simp; omega) _) (Nat.le_refl _)
    rintro e w1 ⟨rfl, hb1⟩
    rw [show (18446744073709551615 : Int).toNat = 18446744073709551615 from rfl]
    generalize numRS ⟨t.bo, 0, 0⟩ 18446744073709551615 = r1 at *
    obtain ⟨⟨l1, a1, e1⟩, v1⟩ := r1
    simp only at hl1 hl2 Hv1 hat1 hat2 Hp ⊢
    subst hl1
    have T2 := block_below (block_alloc (heap_alloc_new _ _) _) hb1 (by simp)
    have T5 := block_below (heap_alloc_new _ _) hb1 (by simp)
    simp only [World.size_alloc] at T2 T5
    have hz1 := hb1.size
    simp at hz1
    have Hw1 := Lib.hid (((below_two w _ _).alloc (by simp; omega) _).trans (hb1.mono (by simp; omega)))
    have x0 := block_cell T5 0; have x1 := block_cell T5 1; have x2 := block_cell T5 2; have xf := block_free T5
    simp at x0 x1 x2
    obtain ⟨s5, sg⟩ := set3 T5 (.slice t.A t.n t.c) (.int .i64 (a1 : Int)) (.int .i64 e1)
    have S5 := Lib.hid s5; have Sg := Lib.hid sg; have HT2 := Lib.hid T2
    clear hb1 T2 T5 s5 sg
    go_wp2_with fail
    generalize ((w1.setCell ⟨w.heap.size + 1 + 1, 0, none⟩ (.slice t.A t.n t.c)).setCell ⟨w.heap.size + 1 + 1, 1, none⟩ (.int .i64 (a1 : Int))).setCell ⟨w.heap.size + 1 + 1, 2, none⟩ (.int .i64 e1) = w2 at *
    have Hw2 := Lib.hid (below_gr Hw1.out Sg.out (by omega))
    have HT2b := Lib.hid ((Sg.out.block (w.heap.size + 1) (by omega) (by simp)).trans HT2.out)
    have hz2 := Sg.out.size
    clear x0 x1 x2 xf
    refine (readr_at t.A t.n t.c _ ⟨t.bo, a1, e1⟩ _ (H.out.r1.up Hw2.out (Nat.le_refl _)) H.out.c1 (by have := H.out.m1; omega) (by show a1 ≤ t.n; rw [← hlen]; exact hat1) H.out.b1 (by omega)).mono ?_
    rintro e w3 ⟨rfl, hb3⟩
    rw [show (18446744073709551615 : Int).toNat = 18446744073709551615 from rfl]
    generalize numRS ⟨t.bo, a1, e1⟩ 18446744073709551615 = r2 at *
    obtain ⟨⟨l2, a2, e2⟩, v2⟩ := r2
    simp only at hl2 hat2 Hp ⊢
    subst hl2
    have T2 := block_below HT2b.out hb3 (by omega)
    have T5 := block_below S5.out hb3 (by omega)
    have Hw3 := Lib.hid (Hw2.out.trans (hb3.mono Hw2.out.size))
    have x0 := block_cell T5 0; have x1 := block_cell T5 1; have x2 := block_cell T5 2; have xf := block_free T5
    simp at x0 x1 x2
    obtain ⟨s5, sg⟩ := set3 T5 (.slice t.A t.n t.c) (.int .i64 (a2 : Int)) (.int .i64 e2)
    have hz3 := hb3.size
    have y0 := block_cell T2
    have yf := block_free T2
    have k0 := y0 0; have k1 := y0 1; have k2 := y0 2; have k3 := y0 3; have k4 := y0 4; have k5 := y0 5; have k6 := y0 6; have k7 := y0 7
    simp at k0 k1 k2 k3 k4 k5 k6 k7
    have S5b := Lib.hid s5; have Sgb := Lib.hid sg; have HT2c := Lib.hid T2
    clear hb3 T2 T5 s5 sg y0
    have hz3' : w.heap.size + 1 + 1 < w3.heap.size := by omega
    have Hw4 := Lib.hid (below_gr Hw3.out Sgb.out (by omega))
    by_cases he : e2 = 0
    · by_cases hv : 1125899906842624 < v2
      · have b2 : (e2 != 0) = false := by simpa using he
        have b3 : decide ((1125899906842624 : Int) < (v2 : Int)) = true := decide_eq_true (by omega)
        have Hp2 : Hid (paidT t.ki t.bo = (d0, 0, 2)) := by show _ = _; rw [Hp0.out, Hp.out, if_neg (by simpa using he), if_pos hv]
        clear he hv
        go_wp2
        refine bodyPost_ret (v := .tuple #[.agg #[.int .u8 0, .int .u8 0, .int .u8 0, .int .u8 0, .int .u8 0, .int .u8 0, .int .u8 0, .int .u8 0], .int .i64 0, .int .i64 2]) (by simp [results, Try.results12, go_sem, k0, k1, k2, k3, k4, k5, k6, k7]) rfl ⟨by rw [Hp2.out]; rfl, ?_⟩
        exact ((((((((Hw4.out).setCell (by simp) _).setCell (by simp) _).setCell (by simp) _).setCell (by simp) _).setCell (by simp) _).setCell (by simp) _).setCell (by simp) _).setCell (by simp) _
      · have b2 : (e2 != 0) = false := by simpa using he
        have b3 : decide ((1125899906842624 : Int) < (v2 : Int)) = false := decide_eq_false (by omega)
        have hv2' : (v2 : Int) ≤ 1125899906842624 := by omega
        by_cases ha : a2 < t.n
        · have b4 : decide ((a2 : Int) < (t.n : Int)) = true := decide_eq_true (by omega)
          have b5 : decide (a2 < t.n) = true := decide_eq_true ha
          have Hp2 : Hid (paidT t.ki t.bo = (d0, 0, 5)) := by show _ = _; rw [Hp0.out, Hp.out, if_neg (by simpa using he), if_neg hv, if_pos (by rw [hlen]; exact ha)]
          clear he hv ha
          go_wp2
          refine bodyPost_ret (v := .tuple #[.agg #[.int .u8 0, .int .u8 0, .int .u8 0, .int .u8 0, .int .u8 0, .int .u8 0, .int .u8 0, .int .u8 0], .int .i64 0, .int .i64 5]) (by simp [results, Try.results12, go_sem, k0, k1, k2, k3, k4, k5, k6, k7]) rfl ⟨by rw [Hp2.out]; rfl, ?_⟩
          exact ((((((((Hw4.out).setCell (by simp) _).setCell (by simp) _).setCell (by simp) _).setCell (by simp) _).setCell (by simp) _).setCell (by simp) _).setCell (by simp) _).setCell (by simp) _
        · have b4 : decide ((a2 : Int) < (t.n : Int)) = false := decide_eq_false (by omega)
          have b5 : decide (a2 < t.n) = false := decide_eq_false ha
          have Hp2 : Hid (paidT t.ki t.bo = (D8.of v1, (v2 : Int), 0)) := by show _ = _; rw [Hp0.out, Hp.out, if_neg (by simpa using he), if_neg hv, if_neg (by rw [hlen]; exact ha)]
          clear he hv ha
          go_wp2_with fail
          generalize ((w3.setCell ⟨w.heap.size + 1 + 1, 0, none⟩ (.slice t.A t.n t.c)).setCell ⟨w.heap.size + 1 + 1, 1, none⟩ (.int .i64 (a2 : Int))).setCell ⟨w.heap.size + 1 + 1, 2, none⟩ (.int .i64 e2) = w4 at *
          have T2 := (Sgb.out.block (w.heap.size + 1) (by omega) (by simp)).trans HT2c.out
          have hz4 := Sgb.out.size
          clear k0 k1 k2 k3 k4 k5 k6 k7 yf x0 x1 x2 xf
          refine (rfrom_any v1 w4 (by have := Hv1.out; omega)).mono ?_
          rintro e w5 ⟨rfl, hb5⟩
          have T2' := block_below T2 hb5 (by omega)
          have Hw5 := Lib.hid (Hw4.out.trans (hb5.mono Hw4.out.size))
          clear hb5 T2
          have y0 := block_cell T2'
          have yf := block_free T2'
          have k0 := y0 0; have k1 := y0 1; have k2 := y0 2; have k3 := y0 3; have k4 := y0 4; have k5 := y0 5; have k6 := y0 6; have k7 := y0 7
          simp at k0 k1 k2 k3 k4 k5 k6 k7
          clear y0 T2'
          go_wp2
          refine bodyPost_ret (v := .tuple #[.agg #[.int .u8 ((D8.of v1).x0 : Int), .int .u8 ((D8.of v1).x1 : Int), .int .u8 ((D8.of v1).x2 : Int), .int .u8 ((D8.of v1).x3 : Int), .int .u8 ((D8.of v1).x4 : Int), .int .u8 ((D8.of v1).x5 : Int), .int .u8 ((D8.of v1).x6 : Int), .int .u8 ((D8.of v1).x7 : Int)], .int .i64 (v2 : Int), .int .i64 0]) (by simp [results, Try.results12, go_sem, k0, k1, k2, k3, k4, k5, k6, k7]) rfl ⟨by rw [Hp2.out], ?_⟩
          exact ((((((((Hw5.out).setCell (by simp) _).setCell (by simp) _).setCell (by simp) _).setCell (by simp) _).setCell (by simp) _).setCell (by simp) _).setCell (by simp) _).setCell (by simp) _
    · have b2 : (e2 != 0) = true := by simpa using he
      have Hp2 : Hid (paidT t.ki t.bo = (d0, 0, e2)) := by show _ = _; rw [Hp0.out, Hp.out, if_pos (by simpa using he)]
      clear he
      go_wp2
      generalize ((w3.setCell ⟨w.heap.size + 1 + 1, 0, none⟩ (.slice t.A t.n t.c)).setCell ⟨w.heap.size + 1 + 1, 1, none⟩ (.int .i64 (a2 : Int))).setCell ⟨w.heap.size + 1 + 1, 2, none⟩ (.int .i64 e2) = w4 at *
      have T2 := (Sgb.out.block (w.heap.size + 1) (by omega) (by simp)).trans HT2c.out
      clear k0 k1 k2 k3 k4 k5 k6 k7 yf x0 x1 x2 xf
      have z2 := block_cell S5b.out 2
      have y0 := block_cell T2
      have yf := block_free T2
      have k0 := y0 0; have k1 := y0 1; have k2 := y0 2; have k3 := y0 3; have k4 := y0 4; have k5 := y0 5; have k6 := y0 6; have k7 := y0 7
      simp at k0 k1 k2 k3 k4 k5 k6 k7 z2
      clear y0 T2
      go_region
      all_goals
        go_wp2
        refine bodyPost_ret (v := .tuple #[.agg #[.int .u8 0, .int .u8 0, .int .u8 0, .int .u8 0, .int .u8 0, .int .u8 0, .int .u8 0, .int .u8 0], .int .i64 0, .int .i64 e2]) (by simp [results, Try.results12, go_sem, k0, k1, k2, k3, k4, k5, k6, k7]) rfl ⟨by rw [Hp2.out]; rfl, ?_⟩
        exact (((((((((Hw4.out).setCell (by simp) _).setCell (by simp) _).setCell (by simp) _).setCell (by simp) _).setCell (by simp) _).setCell (by simp) _).setCell (by simp) _).setCell (by simp) _).drew
  · have b1 : (t.ki != 0) = true := by simpa using hk
    have Hp : Hid (paidT t.ki t.bo = (d0, 0, 11)) := by show _ = _; unfold paidT; rw [if_neg hk]
    clear hk
    go_enter Try.func12, Try.ntmps12
    go_wp2
    refine bodyPost_ret (v := .tuple #[.agg #[.int .u8 0, .int .u8 0, .int .u8 0, .int .u8 0, .int .u8 0, .int .u8 0, .int .u8 0, .int .u8 0], .int .i64 0, .int .i64 11]) (by simp [results, Try.results12, go_sem]) rfl ⟨by rw [Hp.out]; rfl, ?_⟩
    exact below_two _ _ _
end Go.Proofs.Ytebepgoaofhelaa
