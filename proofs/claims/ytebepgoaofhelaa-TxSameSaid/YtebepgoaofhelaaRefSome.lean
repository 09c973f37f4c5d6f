/- The walk of the reference's Some: bytes with how many they are. Conditions: bounds on how many bytes. -/
import Derived.Test.YtebepgoaofhelaaRefRead
import Derived.Test.YtebepgoaofhelaaReadBytes2
namespace Go.Proofs.Ytebepgoaofhelaa
open Go.RowKit Go.Lib

theorem lookN_lt (l : List Nat) : (lookN l).1 < 18446744073709551616 := by
  unfold lookN
  simp only
  split
  · simp
  · split
    · simp
    · rename_i h1 h2
      have h := goOn_le 10 l
      exact valN_small (by omega) (fun e => by rw [e] at h2; omega) (by omega)
theorem take1_all (l : List Nat) : take1 l 18446744073709551615 = if (lookN l).2.2 ≠ 0 then (0, (lookN l).2.2, 0) else ((lookN l).2.1, 0, (lookN l).1) := by
  unfold take1
  have := lookN_lt l
  split
  · rfl
  · rw [if_neg (by omega)]
theorem readr_at (A : Option Addr) (n c : Nat) (mo : Int) (s : RS) (w : World) (hr : Rd w w.heap.size 1 A n (bv s.l)) (hnc : n ≤ c) (hn : n ≤ 1000000000) (hat : s.at_ ≤ n) (hb : ∀ x ∈ s.l, x < 256) (h0 : 0 ≤ mo) :
    Calls Try.prog 37 #[.agg #[.slice A n c, .int .i64 (s.at_ : Int), .int .i64 s.err], .int .u64 mo] w (GivesRS A n c w (numRS s mo.toNat).1 (numRS s mo.toNat).2) := by
  obtain ⟨m, rfl⟩ := Int.eq_ofNat_of_zero_le h0
  exact readr_any A n c m s w hr hnc hn hat hb
theorem num_at (b : Nat) (mo : Int) (s : RS) (w : World) (h : RdAt w b s) (h0 : 0 ≤ mo) :
    Calls Try.prog 35 #[.pointer (some ⟨b, 0, none⟩), .int .u64 mo] w fun e w' => e = .returned (.int .u64 ((numRS s mo.toNat).2 : Int)) ∧ RdAt w' b (numRS s mo.toNat).1 ∧ w.grownBy w' (some b) := by
  obtain ⟨m, rfl⟩ := Int.eq_ofNat_of_zero_le h0
  exact num_any b m s w h
theorem bytes_at (b : Nat) (mo : Int) (s : RS) (w : World) (h : RdAt w b s) (h0 : 0 ≤ mo) (h1 : mo ≤ 1000000000) :
    Calls Try.prog 47 #[.pointer (some ⟨b, 0, none⟩), .int .i64 mo] w (GivesR w b (bytesRS s mo.toNat)) := by
  obtain ⟨m, rfl⟩ := Int.eq_ofNat_of_zero_le h0
  exact bytes_any b m s w h (by omega)
/-- What the reference's Some hands back. -/
def GivesSome (A : Option Addr) (n c : Nat) (w : World) (x : RS × List Nat) (e : Ending) (w' : World) : Prop :=
  ∃ A2 n2 c2, e = .returned (.tuple #[.agg #[.slice A n c, .int .i64 (x.1.at_ : Int), .int .i64 x.1.err], .slice A2 n2 c2]) ∧ w'.ownsRow w.heap.size 5 1 (.slice A2 n2 c2) n2 (bv x.2) ∧ n2 = x.2.length ∧ Below w.heap.size w w'
set_option maxRecDepth 100000 in
set_option maxHeartbeats 1000000 in
theorem some_any (A : Option Addr) (n c most : Nat) (s : RS) (w : World) (hr : Rd w w.heap.size 1 A n (bv s.l)) (hnc : n ≤ c) (hn : n ≤ 1000000000) (hat : s.at_ ≤ n) (hb : ∀ x ∈ s.l, x < 256) (hmost : most ≤ 1000000000) :
    Calls Try.prog 48 #[.agg #[.slice A n c, .int .i64 (s.at_ : Int), .int .i64 s.err], .int .i64 (most : Int)] w (GivesSome A n c w (bytesRS s most)) := by
  obtain ⟨l, at_, err⟩ := s
  simp only at hr hat hb ⊢
  have hln : l.length = n := by have := hr.1; rw [bv_len] at this; omega
  have Hr := Lib.hid hr
  have Hb := Lib.hid hb
  have Hln := Lib.hid hln
  clear hr hb hln
  by_cases he : err = 0
  · subst he
    by_cases h1 : (lookN (l.drop at_)).2.2 = 0
    · have b1 : ((lookN (l.drop at_)).2.2 != 0) = false := by simpa using h1
      have Hrd : Hid (numRS ⟨l, at_, 0⟩ (18446744073709551615 : Int).toNat = (⟨l, at_ + (lookN (l.drop at_)).2.1, 0⟩, (lookN (l.drop at_)).1)) := by
        show numRS ⟨l, at_, 0⟩ 18446744073709551615 = _
        unfold numRS
        simp [take1_all, h1]
      have hsz := lookN_len (l.drop at_)
      have hszn : (lookN (l.drop at_)).2.1 ≤ n - at_ := by rw [List.length_drop, Hln.out] at hsz; exact hsz
      have Hlt : Hid ((lookN (l.drop at_)).1 < 18446744073709551616) := lookN_lt _
      have Htk : Hid (takeB (l.drop at_) most = if most < (lookN (l.drop at_)).1 then (0, 2, [])
          else if n - at_ - (lookN (l.drop at_)).2.1 < (lookN (l.drop at_)).1 then (0, 4, [])
          else ((lookN (l.drop at_)).2.1 + (lookN (l.drop at_)).1, 0, ((l.drop at_).drop (lookN (l.drop at_)).2.1).take (lookN (l.drop at_)).1)) := by
        show _ = _
        unfold takeB
        rw [if_neg (by simpa using h1), List.length_drop, Hln.out]
      have Hbs : Hid (bytesRS ⟨l, at_, 0⟩ most = _) := Lib.hid (by unfold bytesRS; rw [if_neg (by simp)])
      clear hsz h1
      generalize (lookN (l.drop at_)).1 = v at *
      generalize (lookN (l.drop at_)).2.1 = sz at *
      generalize (lookN (l.drop at_)).2.2 = er at *
      by_cases h2 : most < v
      · have Hres : Hid (bytesRS ⟨l, at_, 0⟩ most = (⟨l, at_, 2⟩, [])) := by show _ = _; rw [Hbs.out, Htk.out, if_pos h2]; rfl
        have b2 : decide (most < v) = true := decide_eq_true h2
        have b3 : decide ((most : Int) < (v : Int)) = true := decide_eq_true (by omega)
        have hm' : (most : Int) ≤ 1000000000 := by omega
        clear h2 Hbs Htk
        go_enter Try.func48, Try.ntmps48
        go_wp2_with fail
        refine (readr_at A n c _ ⟨l, at_, 0⟩ _ ?_ hnc hn hat Hb.out (by omega)).mono ?_
        · exact Hr.out.up (below_two _ _ _) (Nat.le_refl _)
        rintro e w1 ⟨rfl, hb1⟩
        rw [Hrd.out]
        have hz := hb1.size
        have hzz : w.heap.size + 1 < w1.heap.size := by simp at hz; omega
        have hzz0 : w.heap.size < w1.heap.size := by omega
        have T2 := block_below (block_alloc (heap_alloc_new w _) _) hb1 (by simp; omega)
        have T4 := block_below (heap_alloc_new _ _) hb1 (by simp)
        rw [World.size_alloc] at T4
        have t20 := block_cell T2 0
        have t21 := block_cell T2 1
        have t22 := block_cell T2 2
        simp at t20 t21 t22
        have Hb1 := Lib.hid hb1
        clear hb1 hz T2
        go_wp2_with fail
        refine (fail_any A n c (at_ : Int) 0 _ _).mono ?_
        rintro e w2 ⟨rfl, hb2⟩
        have T4' := block_below (block_alloc T4 _) hb2 (by simp; omega)
        have k0 := block_cell T4' 0
        have k1 := block_cell T4' 1
        have k2 := block_cell T4' 2
        have kf := block_free T4'
        simp at k0 k1 k2
        have Hb2 := Lib.hid hb2
        have HT4 := Lib.hid T4'
        clear hb2 T4' T4
        go_wp2
        have HT5 := Lib.hid (Joins.block_setCell (i := 2) (Joins.block_setCell (i := 1) (Joins.block_setCell (i := 0) HT4.out (.slice A n c)) (.int .i64 (at_ : Int))) (.int .i64 2))
        have j0 := block_cell HT5.out 0
        have j1 := block_cell HT5.out 1
        have j2 := block_cell HT5.out 2
        simp at j0 j1 j2
        refine bodyPost_ret (v := .tuple #[.agg #[.slice A n c, .int .i64 (at_ : Int), .int .i64 2], .slice none 0 0]) (by simp [results, Try.results48, go_sem, j0, j1, j2]) rfl ⟨none, 0, 0, by rw [Hres.out], by rw [Hres.out]; exact World.ownsRow_nil _ _ _ _, by rw [Hres.out]; rfl, ?_⟩
        exact (((below_two _ _ _).trans (((Hb1.out.alloc Hb1.out.size _).trans (Hb2.out.mono (by have := Hb1.out.size; simp at this ⊢; omega))).mono (by simp; omega))).setCell (by simp) _).setCell (by simp) _ |>.setCell (by simp) _
      have b2 : decide (most < v) = false := decide_eq_false h2
      have b3 : decide ((most : Int) < (v : Int)) = false := decide_eq_false (by omega)
      have hm' : (most : Int) ≤ 1000000000 := by omega
      have hrem : (at_ : Int) + (sz : Int) ≤ (n : Int) := by omega
      have hn' : (n : Int) ≤ 1000000000 := by omega
      have e1 : IntKind.u64.wrap ((n : Int) - ((at_ : Int) + (sz : Int))) = (n : Int) - ((at_ : Int) + (sz : Int)) := by rw [IntKind.wrap_u64]; omega
      by_cases h3 : n - at_ - sz < v
      · have Hres : Hid (bytesRS ⟨l, at_, 0⟩ most = (⟨l, at_, 4⟩, [])) := by show _ = _; rw [Hbs.out, Htk.out, if_neg h2, if_pos h3]; rfl
        have b4 : decide ((n : Int) - ((at_ : Int) + (sz : Int)) < (v : Int)) = true := decide_eq_true (by omega)
        clear h2 h3 Hbs Htk
        go_enter Try.func48, Try.ntmps48
        go_wp2_with fail
        refine (readr_at A n c _ ⟨l, at_, 0⟩ _ ?_ hnc hn hat Hb.out (by omega)).mono ?_
        · exact Hr.out.up (below_two _ _ _) (Nat.le_refl _)
        rintro e w1 ⟨rfl, hb1⟩
        rw [Hrd.out]
        have hz := hb1.size
        have hzz : w.heap.size + 1 < w1.heap.size := by simp at hz; omega
        have hzz0 : w.heap.size < w1.heap.size := by omega
        have T2 := block_below (block_alloc (heap_alloc_new w _) _) hb1 (by simp; omega)
        have T4 := block_below (heap_alloc_new _ _) hb1 (by simp)
        rw [World.size_alloc] at T4
        have t20 := block_cell T2 0
        have t21 := block_cell T2 1
        have t22 := block_cell T2 2
        simp at t20 t21 t22
        have Hb1 := Lib.hid hb1
        clear hb1 hz T2
        go_wp2_with fail
        refine (fail_any A n c (at_ : Int) 0 _ _).mono ?_
        rintro e w2 ⟨rfl, hb2⟩
        have T4' := block_below (block_alloc T4 _) hb2 (by simp; omega)
        have k0 := block_cell T4' 0
        have k1 := block_cell T4' 1
        have k2 := block_cell T4' 2
        have kf := block_free T4'
        simp at k0 k1 k2
        have Hb2 := Lib.hid hb2
        have HT4 := Lib.hid T4'
        clear hb2 T4' T4
        go_wp2
        have HT5 := Lib.hid (Joins.block_setCell (i := 2) (Joins.block_setCell (i := 1) (Joins.block_setCell (i := 0) HT4.out (.slice A n c)) (.int .i64 (at_ : Int))) (.int .i64 4))
        have j0 := block_cell HT5.out 0
        have j1 := block_cell HT5.out 1
        have j2 := block_cell HT5.out 2
        simp at j0 j1 j2
        refine bodyPost_ret (v := .tuple #[.agg #[.slice A n c, .int .i64 (at_ : Int), .int .i64 4], .slice none 0 0]) (by simp [results, Try.results48, go_sem, j0, j1, j2]) rfl ⟨none, 0, 0, by rw [Hres.out], by rw [Hres.out]; exact World.ownsRow_nil _ _ _ _, by rw [Hres.out]; rfl, ?_⟩
        exact (((below_two _ _ _).trans (((Hb1.out.alloc Hb1.out.size _).trans (Hb2.out.mono (by have := Hb1.out.size; simp at this ⊢; omega))).mono (by simp; omega))).setCell (by simp) _).setCell (by simp) _ |>.setCell (by simp) _
      have Hres : Hid (bytesRS ⟨l, at_, 0⟩ most = (⟨l, at_ + (sz + v), 0⟩, ((l.drop at_).drop sz).take v)) := by show _ = _; rw [Hbs.out, Htk.out, if_neg h2, if_neg h3]; rfl
      have b4 : decide ((n : Int) - ((at_ : Int) + (sz : Int)) < (v : Int)) = false := decide_eq_false (by omega)
      have hvn : (at_ : Int) + (sz : Int) + (v : Int) ≤ (n : Int) := by omega
      obtain ⟨A2, hrun, hrd⟩ := slice_range elem_u8 sizeOf_u8 Hr.out hnc (k := at_ + sz) (m := at_ + sz + v) (by omega) (by omega)
      have e0 : at_ + sz + v - (at_ + sz) = v := by omega
      rw [e0] at hrd hrun
      have HRd : Hid (Rd w w.heap.size 1 A2 v (bv (((l.drop at_).drop sz).take v))) := by
        show Rd _ _ _ _ _ _
        rw [bv_take, bv_drop, bv_drop, List.drop_drop]; simpa using hrd
      have Hlen : Hid ((((l.drop at_).drop sz).take v).length = v) := by show _ = _; rw [List.length_take, List.length_drop, List.length_drop, Hln.out]; omega
      have hrun' : ∀ w', (Instr.sliceAt 24 (.slice A n c) (some (.int .i64 ((at_ : Int) + (sz : Int)))) (some (.int .i64 ((at_ : Int) + (sz : Int) + (v : Int)))) none).run Try.prog w' = .ok (.slice A2 v (c - (at_ + sz))) w' := by
        intro w'; have := hrun w'; rw [Int.natCast_add, Int.natCast_add] at this; exact this
      clear h2 h3 Hbs Htk hrun hrd e0
      generalize ((l.drop at_).drop sz).take v = res at *
      obtain ⟨i0, hi, hz0, hz1, hz2⟩ := info_parts info_u8
      have HI := Lib.hid (And.intro hi (And.intro hz0 (And.intro hz1 hz2))); clear hi hz0 hz1 hz2
      go_enter Try.func48, Try.ntmps48
      go_wp2_with fail
      refine (readr_at A n c _ ⟨l, at_, 0⟩ _ ?_ hnc hn hat Hb.out (by omega)).mono ?_
      · exact Hr.out.up (below_two _ _ _) (Nat.le_refl _)
      rintro e w1 ⟨rfl, hb1⟩
      rw [Hrd.out]
      have hz := hb1.size
      have hzz : w.heap.size + 1 < w1.heap.size := by simp at hz; omega
      have hzz0 : w.heap.size < w1.heap.size := by omega
      have T2 := block_below (block_alloc (heap_alloc_new w _) _) hb1 (by simp; omega)
      have T4 := block_below (heap_alloc_new _ _) hb1 (by simp)
      rw [World.size_alloc] at T4
      have t20 := block_cell T2 0
      have t21 := block_cell T2 1
      have t22 := block_cell T2 2
      simp at t20 t21 t22
      have Hb1 := Lib.hid hb1
      clear hb1 hz T2
      have T4a := block_alloc (block_alloc T4 (.cells #[.slice A n c, .int .i64 ((at_ : Int) + (sz : Int)), .int .i64 0] 74)) (.cells #[] 5)
      have Tx := block_alloc (heap_alloc_new w1 (.cells #[.slice A n c, .int .i64 ((at_ : Int) + (sz : Int)), .int .i64 0] 74)) (.cells #[] 5)
      have Hown0 : Hid (((w1.alloc (.cells #[.slice A n c, .int .i64 ((at_ : Int) + (sz : Int)), .int .i64 0] 74)).alloc (.cells #[] 5)).ownsRow (w1.heap.size + 1) 5 1 (.slice (some ⟨w1.heap.size + 1, 0, none⟩) 0 0) 0 (bv [])) := by
        have := World.ownsRow_made (base := w1.heap.size + 1) (e := 5) (size := 1) (w1.alloc (.cells #[.slice A n c, .int .i64 ((at_ : Int) + (sz : Int)), .int .i64 0] 74)) #[] 0 (by simp) (by decide) rfl
        rwa [World.size_alloc] at this
      have HRd1 : Hid (Rd ((w1.alloc (.cells #[.slice A n c, .int .i64 ((at_ : Int) + (sz : Int)), .int .i64 0] 74)).alloc (.cells #[] 5)) w.heap.size 1 A2 v (bv res)) :=
        ((HRd.out.below ((below_two _ _ _).trans (Hb1.out.mono (by simp; omega))) (Nat.le_refl _)).alloc (by omega) _).alloc (by simp; omega) _
      have HT4a := Lib.hid T4a
      have HTx := Lib.hid Tx
      clear T4a Tx T4
      go_wp2_with (at_builtin; go_must (refine wpList_append_rd ((w1.alloc (.cells #[.slice A n c, .int .i64 ((at_ : Int) + (sz : Int)), .int .i64 0] 74)).alloc (.cells #[] 5)) (by rfl) _ _ 24 (by rfl) (w1.heap.size + 1) 5 i0 (.int .u8 0) 1 1 Try.underlying24 HI.out rfl (by decide) _ _ _ (by rfl) Hown0.out w.heap.size A2 v (c - (at_ + sz)) (bv res) (by rfl) HRd1.out (bv_one res) (by omega) (by omega) (by simp) ?_); intro v4 w4 hown4 hbel4; (obtain ⟨A4, c4, rfl⟩ := own_form hown4); have T4b := block_below HT4a.out hbel4 (by omega); have Txb := block_below HTx.out hbel4 (by omega); have x0 := block_cell Txb 0; have x1 := block_cell Txb 1; have x2 := block_cell Txb 2; have xf := block_free Txb; have k0 := block_cell T4b 0; have k1 := block_cell T4b 1; have k2 := block_cell T4b 2; have kf := block_free T4b; simp at x0 x1 x2 k0 k1 k2; have Hown4 := Lib.hid hown4; have Hbel4 := Lib.hid hbel4; have HT4b := Lib.hid T4b; have HTxb := Lib.hid Txb; clear hown4 hbel4 T4b Txb)
      have HT5 := Lib.hid (Joins.block_setCell (i := 2) (Joins.block_setCell (i := 1) (Joins.block_setCell (i := 0) ((Below.heap_setCell w4 ⟨w1.heap.size, 1, none⟩ (.int .i64 ((at_ : Int) + (sz : Int) + (v : Int))) (w.heap.size + 1) (by show w.heap.size + 1 ≠ w1.heap.size; omega)).trans HT4b.out) (.slice A n c)) (.int .i64 ((at_ : Int) + (sz : Int) + (v : Int)))) (.int .i64 0))
      have j0 := block_cell HT5.out 0
      have j1 := block_cell HT5.out 1
      have j2 := block_cell HT5.out 2
      simp at j0 j1 j2
      have hown : w4.ownsRow (w1.heap.size + 1) 5 1 (.slice A4 v c4) v (bv res) := by
        have := Hown4.out
        simpa [bv] using this
      have hown5 := ownsRow_setCell_below (ownsRow_setCell_below (ownsRow_setCell_below (ownsRow_setCell_below hown (a := ⟨w1.heap.size, 1, none⟩) (by show w1.heap.size < _; omega) (.int .i64 ((at_ : Int) + (sz : Int) + (v : Int)))) (a := ⟨w.heap.size + 1, 0, none⟩) (by show w.heap.size + 1 < _; omega) (.slice A n c)) (a := ⟨w.heap.size + 1, 1, none⟩) (by show w.heap.size + 1 < _; omega) (.int .i64 ((at_ : Int) + (sz : Int) + (v : Int)))) (a := ⟨w.heap.size + 1, 2, none⟩) (by show w.heap.size + 1 < _; omega) (.int .i64 0)
      refine bodyPost_ret (v := .tuple #[.agg #[.slice A n c, .int .i64 ((at_ : Int) + (sz : Int) + (v : Int)), .int .i64 0], .slice A4 v c4]) (by simp [results, Try.results48, go_sem, j0, j1, j2]) rfl ⟨A4, v, c4, ?_, ?_, ?_, ?_⟩
      · rw [Hres.out]
        simp only [Int.natCast_add, Int.add_assoc]
      · rw [Hres.out]
        exact own_down hown5 (by omega)
      · rw [Hres.out]; exact Hlen.out.symm
      · have h1 : Below (w.heap.size + 2) w1 w4 := (((Below.refl _ _).alloc (by omega) _).alloc (by simp; omega) _).trans (Hbel4.out.mono (by omega))
        have h2 : Below (w.heap.size + 2) ((w.alloc (.cells #[.slice A n c, .int .i64 (at_ : Int), .int .i64 0] 74)).alloc (.cells #[.slice none 0 0, .int .i64 0, .int .i64 0] 74)) w4 := (Hb1.out.mono (by simp)).trans h1
        exact ((((((below_two _ _ _).trans (h2.mono (by omega))).setCell (by show w.heap.size ≤ w1.heap.size; omega) _).setCell (by simp) _).setCell (by simp) _).setCell (by simp) _)
    · have b1 : ((lookN (l.drop at_)).2.2 != 0) = true := by simpa using h1
      have Hres : Hid (bytesRS ⟨l, at_, 0⟩ most = (⟨l, at_, (lookN (l.drop at_)).2.2⟩, [])) := by show _ = _; simp [bytesRS, takeB, h1]
      have Hrd : Hid (numRS ⟨l, at_, 0⟩ (18446744073709551615 : Int).toNat = (⟨l, at_, (lookN (l.drop at_)).2.2⟩, 0)) := by
        show numRS ⟨l, at_, 0⟩ 18446744073709551615 = _
        unfold numRS
        rw [take1_all, if_pos h1]
        simp [h1]
      clear h1
      go_enter Try.func48, Try.ntmps48
      go_wp2_with fail
      refine (readr_at A n c _ ⟨l, at_, 0⟩ _ ?_ hnc hn hat Hb.out (by omega)).mono ?_
      · exact Hr.out.up (below_two _ _ _) (Nat.le_refl _)
      rintro e w1 ⟨rfl, hb1⟩
      rw [Hrd.out]
      have hz := hb1.size
      have hzz : w.heap.size + 1 < w1.heap.size := by simp at hz; omega
      have hzz0 : w.heap.size < w1.heap.size := by omega
      have T2 := block_below (block_alloc (heap_alloc_new w _) _) hb1 (by simp; omega)
      have T4 := block_below (heap_alloc_new _ _) hb1 (by simp)
      rw [World.size_alloc] at T4
      have t20 := block_cell T2 0
      have t21 := block_cell T2 1
      have t22 := block_cell T2 2
      simp at t20 t21 t22
      have Hb1 := Lib.hid hb1
      clear hb1 hz T2
      go_wp2_with fail
      refine (fail_any A n c (at_ : Int) 0 _ _).mono ?_
      rintro e w2 ⟨rfl, hb2⟩
      have T4' := block_below (block_alloc T4 _) hb2 (by simp; omega)
      have k0 := block_cell T4' 0
      have k1 := block_cell T4' 1
      have k2 := block_cell T4' 2
      have kf := block_free T4'
      simp at k0 k1 k2
      have Hb2 := Lib.hid hb2
      have HT4 := Lib.hid T4'
      clear hb2 T4' T4
      go_wp2
      have HT5 := Lib.hid (Joins.block_setCell (i := 2) (Joins.block_setCell (i := 1) (Joins.block_setCell (i := 0) HT4.out (.slice A n c)) (.int .i64 (at_ : Int))) (.int .i64 (lookN (l.drop at_)).2.2))
      have j0 := block_cell HT5.out 0
      have j1 := block_cell HT5.out 1
      have j2 := block_cell HT5.out 2
      simp at j0 j1 j2
      refine bodyPost_ret (v := .tuple #[.agg #[.slice A n c, .int .i64 (at_ : Int), .int .i64 (lookN (l.drop at_)).2.2], .slice none 0 0]) (by simp [results, Try.results48, go_sem, j0, j1, j2]) rfl ⟨none, 0, 0, by rw [Hres.out], by rw [Hres.out]; exact World.ownsRow_nil _ _ _ _, by rw [Hres.out]; rfl, ?_⟩
      exact (((below_two _ _ _).trans (((Hb1.out.alloc Hb1.out.size _).trans (Hb2.out.mono (by have := Hb1.out.size; simp at this ⊢; omega))).mono (by simp; omega))).setCell (by simp) _).setCell (by simp) _ |>.setCell (by simp) _
  · have b1 : (err != 0) = true := by simpa using he
    have Hres : Hid (bytesRS ⟨l, at_, err⟩ most = (⟨l, at_, err⟩, [])) := by show _ = _; simp [bytesRS, he]
    clear he
    go_enter Try.func48, Try.ntmps48
    go_wp2
    refine bodyPost_ret (v := .tuple #[.agg #[.slice A n c, .int .i64 (at_ : Int), .int .i64 err], .slice none 0 0]) (by simp [results, Try.results48, go_sem]) rfl ⟨none, 0, 0, by rw [Hres.out], by rw [Hres.out]; exact World.ownsRow_nil _ _ _ _, by rw [Hres.out]; rfl, ?_⟩
    exact below_two _ _ _
theorem some_at (A : Option Addr) (n c : Nat) (mo : Int) (s : RS) (w : World) (hr : Rd w w.heap.size 1 A n (bv s.l)) (hnc : n ≤ c) (hn : n ≤ 1000000000) (hat : s.at_ ≤ n) (hb : ∀ x ∈ s.l, x < 256) (h0 : 0 ≤ mo) (h1 : mo ≤ 1000000000) :
    Calls Try.prog 48 #[.agg #[.slice A n c, .int .i64 (s.at_ : Int), .int .i64 s.err], .int .i64 mo] w (GivesSome A n c w (bytesRS s mo.toNat)) := by
  obtain ⟨m, rfl⟩ := Int.eq_ofNat_of_zero_le h0
  exact some_any A n c m s w hr hnc hn hat hb (by omega)
end Go.Proofs.Ytebepgoaofhelaa
