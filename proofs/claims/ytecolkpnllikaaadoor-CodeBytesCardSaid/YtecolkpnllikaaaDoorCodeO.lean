/- The walks of the reference's With and Decode of layer 14. Conditions: a bound on how many bytes. -/
import Derived.Test.YtecolkpnllikaaaDoorCodeN
import Derived.Test.YtecolkpnllikaaaDoorRefRead
namespace Go.Proofs.YtecolkpnllikaaaDoor
open Go.RowKit Go.Lib
theorem unfoldr_any (v : Nat) (w : World) (hv : v < 18446744073709551616) : Calls Tryd.prog 52 #[.int .u64 (v : Int)] w fun e w' => e = .returned (.int .i64 (unfoldN v)) ∧ w = w' := by
  by_cases hodd : v % 2 = 1
  · have ha : (v : Int) % 2 = 1 := by omega
    have hx : -((v : Int) / 2) - 1 = unfoldN v := by unfold unfoldN; rw [if_pos hodd]; omega
    have h1 : IntKind.i64.wrap ((v : Int) / 2) = (v : Int) / 2 := by rw [IntKind.wrap_i64]; omega
    have h2 : IntKind.i64.wrap (-((v : Int) / 2)) = -((v : Int) / 2) := by rw [IntKind.wrap_i64]; omega
    have h3 : IntKind.i64.wrap (-((v : Int) / 2) - 1) = -((v : Int) / 2) - 1 := by rw [IntKind.wrap_i64]; omega
    have Hx := Lib.hid hx
    clear hx hodd
    go_enter Tryd.func52, Tryd.ntmps52
    go_wp2
    go_ret
    exact ⟨ret_int Hx.out, rfl⟩
  · have ha : (v : Int) % 2 = 0 := by omega
    have hx : ((v : Int) / 2) = unfoldN v := by unfold unfoldN; rw [if_neg hodd]; omega
    have h1 : IntKind.i64.wrap ((v : Int) / 2) = (v : Int) / 2 := by rw [IntKind.wrap_i64]; omega
    have Hx := Lib.hid hx
    clear hx hodd
    go_enter Tryd.func52, Tryd.ntmps52
    go_wp2
    go_ret
    exact ⟨ret_int Hx.out, rfl⟩
set_option maxRecDepth 100000 in
theorem with_any (op a b c n : Int) (k : Nat) (w : World) (hk : k < 3) :
    Calls Tryd.prog 54 #[.agg #[.int .i64 op, .int .i64 a, .int .i64 b, .int .i64 c], .int .i64 (k : Int), .int .i64 n] w fun e w' =>
      e = .returned (.agg #[.int .i64 (putI ⟨op, a, b, c⟩ k n).op, .int .i64 (putI ⟨op, a, b, c⟩ k n).a, .int .i64 (putI ⟨op, a, b, c⟩ k n).b, .int .i64 (putI ⟨op, a, b, c⟩ k n).c]) ∧ Below w.heap.size w w' := by
  rcases (by omega : k = 0 ∨ k = 1 ∨ k = 2) with rfl | rfl | rfl
  ·
    go_enter Tryd.func54, Tryd.ntmps54
    go_wp2
    refine bodyPost_ret (v := .agg #[.int .i64 op, .int .i64 n, .int .i64 b, .int .i64 c]) (by simp [results, Tryd.results54, go_sem]) rfl ⟨by simp [putI], ?_⟩
    exact below_twoR _ _ _
  ·
    go_enter Tryd.func54, Tryd.ntmps54
    go_wp2
    refine bodyPost_ret (v := .agg #[.int .i64 op, .int .i64 a, .int .i64 n, .int .i64 c]) (by simp [results, Tryd.results54, go_sem]) rfl ⟨by simp [putI], ?_⟩
    exact below_twoR _ _ _
  ·
    go_enter Tryd.func54, Tryd.ntmps54
    go_wp2
    refine bodyPost_ret (v := .agg #[.int .i64 op, .int .i64 a, .int .i64 b, .int .i64 n]) (by simp [results, Tryd.results54, go_sem]) rfl ⟨by simp [putI], ?_⟩
    exact below_twoR _ _ _
theorem readr_at (A : Option Addr) (n c : Nat) (mo : Int) (l : List Nat) (at_ : Nat) (err : Int) (w : World) (hr : Rd w w.heap.size 1 A n (bv l)) (hnc : n ≤ c) (hn : n ≤ 1000000000) (hat : at_ ≤ n) (hb : ∀ x ∈ l, x < 256) (h0 : 0 ≤ mo) :
    Calls Tryd.prog 51 #[.agg #[.slice A n c, .int .i64 (at_ : Int), .int .i64 err], .int .u64 mo] w fun e w' => ∃ (at' : Nat) (err' : Int) (v : Nat), numRS ⟨l, at_, err⟩ mo.toNat = (⟨l, at', err'⟩, v) ∧ at' ≤ n ∧ v ≤ mo.toNat ∧ e = .returned (.tuple #[.agg #[.slice A n c, .int .i64 (at' : Int), .int .i64 err'], .int .u64 (v : Int)]) ∧ Below w.heap.size w w' := by
  obtain ⟨m, rfl⟩ := Int.eq_ofNat_of_zero_le h0
  have hl : l.length = n := by have := hr.1; rw [bv_len] at this; omega
  refine (readr_any A n c m ⟨l, at_, err⟩ w hr hnc hn hat hb).mono fun e w' h => ?_
  have h1 := numRS_l ⟨l, at_, err⟩ m
  have h2 := numRS_at ⟨l, at_, err⟩ m (by rw [hl]; exact hat)
  have h3 := numRS_le ⟨l, at_, err⟩ m
  rw [Int.toNat_natCast]
  simp only at h1 h2
  rw [hl] at h2
  obtain ⟨h4, h5⟩ := h
  generalize numRS ⟨l, at_, err⟩ m = p at *
  obtain ⟨⟨l', a', e'⟩, v⟩ := p
  simp only at h1 h2 h3 h4
  subst h1
  exact ⟨a', e', v, rfl, h2, h3, h4, h5⟩
theorem set3 {w : World} {b : Nat} {x y z : Value} {T : TypeId} (h : w.heap[b]? = some (.cells #[x, y, z] T (0, 0))) (x' y' z' : Value) :
    (((w.setCell ⟨b, 0, none⟩ x').setCell ⟨b, 1, none⟩ y').setCell ⟨b, 2, none⟩ z').heap[b]? = some (.cells #[x', y', z'] T (0, 0)) ∧ w.grownBy (((w.setCell ⟨b, 0, none⟩ x').setCell ⟨b, 1, none⟩ y').setCell ⟨b, 2, none⟩ z') (some b) := by
  refine ⟨?_, grown_trans (grown_trans (grown_set _ _ _) (grown_set _ _ _)) (grown_set _ _ _)⟩
  have := Joins.block_setCell (i := 2) (Joins.block_setCell (i := 1) (Joins.block_setCell (i := 0) h x') y') z'
  simpa using this
theorem put_form (op a b c : Int) (j : Nat) (n : Int) : ∃ a' b' c', putI ⟨op, a, b, c⟩ j n = ⟨op, a', b', c'⟩ := by
  unfold putI
  split
  · exact ⟨_, _, _, rfl⟩
  · split <;> exact ⟨_, _, _, rfl⟩
theorem args_next {s : RS} {i i' : Ins} {j at_ : Nat} {l : List Nat} (h : argsS s i j = (⟨l, at_, 0⟩, i')) {at' v : Nat} {err' : Int} (hn : numRS ⟨l, at_, 0⟩ 18446744073709551615 = (⟨l, at', err'⟩, v)) :
    argsS s i (j + 1) = (if err' = 0 ∧ inR (unfoldN v) = false then ⟨l, at', 2⟩ else ⟨l, at', err'⟩, putI i' j (unfoldN v)) := by
  rw [argsS, h]
  unfold argS intRS
  simp only
  rw [hn]
  simp
theorem args_err {s : RS} {i i' : Ins} {j at_ : Nat} {l : List Nat} {err : Int} (h : argsS s i j = (⟨l, at_, err⟩, i')) (he : err ≠ 0) (m : Nat) (hm : j ≤ m) : argsS s i m = (⟨l, at_, err⟩, i') := by
  rw [argsS_err (by rw [h]; exact he) m hm, h]
set_option maxRecDepth 100000 in
set_option maxHeartbeats 4000000 in
theorem decoder_any (A : Option Addr) (n c : Nat) (l : List Nat) (w : World) (hr : Rd w w.heap.size 1 A n (bv l)) (hnc : n ≤ c) (hn : n ≤ 1000000000) (hb : ∀ x ∈ l, x < 256) :
    Calls Tryd.prog 28 #[.slice A n c] w (GivesD w (decL l) (decE l)) := by
  obtain ⟨i0, hi, hz0, hz1, hz2⟩ := info_parts info_I
  have HI := Lib.hid (And.intro hi (And.intro hz0 (And.intro hz1 hz2))); clear hi hz0 hz1 hz2
  have hln : l.length = n := by have := hr.1; rw [bv_len] at this; omega
  have Hr := Lib.hid hr; have Hb := Lib.hid hb; have Hln := Lib.hid hln
  have Hs : Hid (decS l = allS (numRS ⟨l, 0, 0⟩ 2048).1 (numRS ⟨l, 0, 0⟩ 2048).2) := Lib.hid rfl
  have HE : Hid (decE l = if endRS (decS l).1 ≠ 0 then endRS (decS l).1 else (checkI (decS l).2 256).2) := Lib.hid rfl
  have HL : Hid (decL l = if decE l = 0 then (decS l).2 else []) := Lib.hid rfl
  have Hn0 := Lib.hid (numRS_zero (s := ⟨l, 0, 0⟩) (m := 2048))
  clear hr hb hln
  go_enter Tryd.func28, Tryd.ntmps28
  go_wp2_with fail
  refine (readr_at A n c _ l 0 0 w Hr.out hnc hn (by simp) Hb.out (by omega)).mono ?_
  rintro e w1 ⟨at0, err0, m, hs0, ha0, hm, rfl, hb1⟩
  rw [show (2048 : Int).toNat = 2048 from rfl] at hs0 hm
  rw [hs0] at Hs Hn0
  simp only at Hs Hn0
  clear hs0
  have Q1 := Lib.hid (heap_alloc_new w1 (.cells #[.slice A n c, .int .i64 (at0 : Int), .int .i64 err0] 91))
  have hs01 := hb1.size
  have Hb1 := Lib.hid (hb1.alloc hs01 (.cells #[.slice A n c, .int .i64 (at0 : Int), .int .i64 err0] 91))
  clear hb1
  have Own1 : Hid (World.ownsRow ((w1.alloc (.cells #[.slice A n c, .int .i64 (at0 : Int), .int .i64 err0] 91)).alloc (.cells #[] 23)) (w1.heap.size + 1) 23 4 (.slice (some ⟨w1.heap.size + 1, 0, none⟩) 0 0) 0 []) := by
    show World.ownsRow _ _ _ _ _ _ _
    have := World.ownsRow_made (base := w1.heap.size + 1) (e := 23) (size := 4) (w1.alloc (.cells #[.slice A n c, .int .i64 (at0 : Int), .int .i64 err0] 91)) #[] 0 (by simp) (by decide) rfl
    simpa using this
  have Q2 := Lib.hid (block_alloc Q1.out (.cells #[] 23))
  have Hb2 := Lib.hid (Hb1.out.alloc Hb1.out.size (.cells #[] 23))
  have St0 : Hid (allS ⟨l, at0, err0⟩ 0 = (⟨l, at0, err0⟩, [])) := Lib.hid rfl
  go_wp2
  go_loopw [6, 7] (fun v i wr => ∃ (k n6 at_ : Nat) (err : Int) (L : List Ins) (A6 : Option Addr) (c6 : Nat), k ≤ m ∧ allS ⟨l, at0, err0⟩ k = (⟨l, at_, err⟩, L) ∧ at_ ≤ n ∧ i = .int .u64 (k : Int) ∧ v = .slice A6 n6 c6 ∧ n6 = L.length ∧ n6 ≤ k ∧ wr.ownsRow (w1.heap.size + 1) 23 4 (.slice A6 n6 c6) n6 (flat L) ∧ wr.heap[w1.heap.size]? = some (.cells #[.slice A n c, .int .i64 (at_ : Int), .int .i64 err] 91) ∧ Below w.heap.size w wr ∧ w1.heap.size + 1 ≤ wr.heap.size) (fun _ i _ => m - (intOf i).toNat)
  case atStart => exact ⟨0, 0, at0, err0, [], _, 0, Nat.zero_le _, St0.out, ha0, rfl, rfl, rfl, Nat.le_refl _, Own1.out, Q2.out, Hb2.out, by simp⟩
  case round =>
    obtain ⟨wo, rfl⟩ : ∃ wo : World, wo = wr := ⟨_, rfl⟩
    obtain ⟨k, n6, at_, err, L, A6, c6, hk, hst, hat, rfl, rfl, hn6, hn6k, hown, hq, hbel, hs1⟩ := hrel
    have hn6m : n6 ≤ 2048 := by omega
    have Hn6 := Lib.hid hn6; have Hown := Lib.hid hown; have Hq := Lib.hid hq; have Hbel := Lib.hid hbel; have Hst := Lib.hid hst
    have hbels := hbel.size
    clear hn6 hown hq hbel hst
    have g0 := block_cell Hq.out
    have g00 := g0 0; have g01 := g0 1; have g02 := g0 2
    simp at g00 g01 g02
    clear g0
    by_cases hlt : k < m
    · have hi1 : (k : Int) < (m : Int) := by omega
      by_cases her : err = 0
      · subst her
        have Hok : Hid (allS ⟨l, at0, err0⟩ (k + 1) = ((insS ⟨l, at_, 0⟩).1, L ++ [(insS ⟨l, at_, 0⟩).2])) := by
          show _ = _
          rw [allS_ok (by rw [Hst.out]), Hst.out]
        have Hins : Hid (insS ⟨l, at_, 0⟩ = argsS (numRS ⟨l, at_, 0⟩ 21).1 ⟨((numRS ⟨l, at_, 0⟩ 21).2 : Int), 0, 0, 0⟩ (hasOf ((numRS ⟨l, at_, 0⟩ 21).2 : Int)).size) := Lib.hid rfl
        go_wp2_with fail
        refine (readr_at A n c _ l at_ 0 wo ((Hr.out.below Hbel.out (Nat.le_refl _)).more hbels) hnc hn hat Hb.out (by omega)).mono ?_
        rintro e w2 ⟨at1, err1, v, hs1', hat1, hv, rfl, hb2⟩
        rw [show (21 : Int).toNat = 21 from rfl] at hs1' hv
        rw [hs1'] at Hins
        simp only at Hins
        have Hq2 := Lib.hid (block_below Hq.out hb2 (by omega))
        have Hown2 := Lib.hid (own_below Hown.out hb2)
        have Hbel2 := Lib.hid (Hbel.out.trans (hb2.mono hbels))
        have hs2 : w1.heap.size + 1 ≤ w2.heap.size := by have := hb2.size; omega
        clear hb2 g00 g01 g02 hs1'
        have g0 := block_cell Hq2.out
        have g00 := g0 0; have g01 := g0 1; have g02 := g0 2
        have gf := block_free Hq2.out
        simp at g00 g01 g02
        obtain ⟨q3, gg3⟩ := set3 Hq2.out (.slice A n c) (.int .i64 (at1 : Int)) (.int .i64 err1)
        have Hq3 := Lib.hid q3
        have Hown3 := Lib.hid (own_grown Hown2.out gg3 (by omega))
        have Hbel3 := Lib.hid (Hbel2.out.trans (below_of_grown gg3 Hbel2.out.size (fun k hk => by injection hk with hk; omega)))
        have hs3 := Nat.le_trans hs2 gg3.size
        clear q3 gg3 g0
        generalize hw3 : ((w2.setCell ⟨w1.heap.size, 0, none⟩ (.slice A n c)).setCell ⟨w1.heap.size, 1, none⟩ (.int .i64 (at1 : Int))).setCell ⟨w1.heap.size, 2, none⟩ (.int .i64 err1) = w3 at *
        have Hp4 := Lib.hid (heap_alloc_new w3 (.cells #[.int .i64 (v : Int), .int .i64 0, .int .i64 0, .int .i64 0] 23))
        have Hq4 := Lib.hid (block_alloc Hq3.out (.cells #[.int .i64 (v : Int), .int .i64 0, .int .i64 0, .int .i64 0] 23))
        have Hg4 := Lib.hid (grown_alloc w3 (.cells #[.int .i64 (v : Int), .int .i64 0, .int .i64 0, .int .i64 0] 23) (some w1.heap.size))
        have St1 : Hid (argsS ⟨l, at1, err1⟩ ⟨(v : Int), 0, 0, 0⟩ 0 = (⟨l, at1, err1⟩, ⟨(v : Int), 0, 0, 0⟩)) := Lib.hid rfl
        have hps := hasOf_size (v : Int)
        go_wp2
        clear g00 g01 g02 gf hw3
        go_loopw [10] (fun i wr => ∃ (j at_ : Nat) (err a b' c' : Int), j ≤ (hasOf (v : Int)).size ∧ argsS ⟨l, at1, err1⟩ ⟨(v : Int), 0, 0, 0⟩ j = (⟨l, at_, err⟩, ⟨(v : Int), a, b', c'⟩) ∧ at_ ≤ n ∧ i = .int .i64 (j : Int) ∧ wr.heap[w1.heap.size]? = some (.cells #[.slice A n c, .int .i64 (at_ : Int), .int .i64 err] 91) ∧ wr.heap[w3.heap.size]? = some (.cells #[.int .i64 (v : Int), .int .i64 a, .int .i64 b', .int .i64 c'] 23) ∧ w3.grownBy wr (some w1.heap.size)) (fun i _ => (hasOf (v : Int)).size - (intOf i).toNat)
        case atStart => exact ⟨0, at1, err1, 0, 0, 0, Nat.zero_le _, St1.out, hat1, rfl, Hq4.out, Hp4.out, Hg4.out⟩
        case round =>
          obtain ⟨j, at2, err2, a, b', c', hj, hst2, hat2, rfl, hq5, hp5, hg5⟩ := hrel
          have hps5 : w3.heap.size < wr.heap.size := block_lt hp5
          have z0 := block_cell hp5
          have z00 := z0 0; have z01 := z0 1; have z02 := z0 2; have z03 := z0 3
          simp at z00 z01 z02 z03
          clear z0
          have Hst2 := Lib.hid hst2; have Hq5 := Lib.hid hq5; have Hp5 := Lib.hid hp5; have Hg5 := Lib.hid hg5
          clear hst2 hq5 hp5 hg5
          go_wp2_with fail
          refine (hasr_any _ _).mono ?_
          rintro e w6 ⟨rfl, hb6⟩
          have Hq6 := Lib.hid (block_below Hq5.out hb6 (by omega))
          have Hp6 := Lib.hid (block_below Hp5.out hb6 hps5)
          have Hg6 := Lib.hid (grown_trans Hg5.out (grown_of_below hb6 (r := some w1.heap.size)))
          have hps6 : w3.heap.size < w6.heap.size := block_lt Hp6.out
          clear hb6 z00 z01 z02 z03
          have z0 := block_cell Hp6.out
          have z00 := z0 0; have z01 := z0 1; have z02 := z0 2; have z03 := z0 3
          simp at z00 z01 z02 z03
          have g0 := block_cell Hq6.out
          have g00 := g0 0; have g01 := g0 1; have g02 := g0 2
          simp at g00 g01 g02
          clear g0 z0
          have hq0 : (0 : Int) ≤ (j : Int) := by omega
          have hbel6 := Hbel3.out.trans (below_of_grown Hg6.out Hbel3.out.size (fun k hk => by injection hk with hk; omega))
          have Hbel6 := Lib.hid hbel6
          have hbels6 := hbel6.size
          clear hbel6
          by_cases hgo : j < (hasOf (v : Int)).size ∧ err2 = 0
          · obtain ⟨hjl, he2⟩ := hgo
            subst he2
            have hj3 : j < 3 := by omega
            have hjl' : (j : Int) < ((hasOf (v : Int)).size : Int) := by omega
            go_wp2_with fail
            refine (readr_at A n c _ l at2 0 w6 ((Hr.out.below Hbel6.out (Nat.le_refl _)).more hbels6) hnc hn hat2 Hb.out (by omega)).mono ?_
            rintro e w7 ⟨at3, err3, x, hs3', hat3, hx, rfl, hb7⟩
            rw [show (18446744073709551615 : Int).toNat = 18446744073709551615 from rfl] at hs3' hx
            have Hnext := Lib.hid (args_next Hst2.out hs3')
            have Hq7 := Lib.hid (block_below Hq6.out hb7 (by omega))
            have Hp7 := Lib.hid (block_below Hp6.out hb7 hps6)
            have Hg7 := Lib.hid (grown_trans Hg6.out (grown_of_below hb7 (r := some w1.heap.size)))
            clear hb7 hs3' z00 z01 z02 z03 g00 g01 g02
            have g0 := block_cell Hq7.out
            have g00 := g0 0; have g01 := g0 1; have g02 := g0 2
            have gf := block_free Hq7.out
            simp at g00 g01 g02
            obtain ⟨q8, gg8⟩ := set3 Hq7.out (.slice A n c) (.int .i64 (at3 : Int)) (.int .i64 err3)
            have Hq8 := Lib.hid q8
            have Hp8 := Lib.hid (block_grown Hp7.out gg8 (by simp; omega))
            have Hg8 := Lib.hid (grown_trans Hg7.out gg8)
            clear q8 gg8 g0
            generalize hw8 : ((w7.setCell ⟨w1.heap.size, 0, none⟩ (.slice A n c)).setCell ⟨w1.heap.size, 1, none⟩ (.int .i64 (at3 : Int))).setCell ⟨w1.heap.size, 2, none⟩ (.int .i64 err3) = w8 at *
            go_wp2_with fail
            clear g00 g01 g02 gf hw8
            refine (unfoldr_any x w8 (by omega)).mono ?_
            rintro e w9 ⟨rfl, rfl⟩
            have g0 := block_cell Hq8.out
            have g00 := g0 0; have g01 := g0 1; have g02 := g0 2
            have gf := block_free Hq8.out
            simp at g00 g01 g02
            clear g0
            generalize hxx : unfoldN x = y at *
            clear hxx
            obtain ⟨a3, b3, c3, hput⟩ := put_form (v : Int) a b' c' j y
            rw [hput] at Hnext
            have hps8 : w3.heap.size < w8.heap.size := block_lt Hp8.out
            have hs8 : w1.heap.size < w8.heap.size := by omega
            by_cases he3 : err3 = 0
            · subst he3
              go_wp2_with fail
              refine (number1_any y w8).mono ?_
              rintro e w9 ⟨rfl, rfl⟩
              by_cases hin : inR y = true
              · rw [hin]
                have Hn2 : Hid (argsS ⟨l, at1, err1⟩ ⟨(v : Int), 0, 0, 0⟩ (j + 1) = (⟨l, at3, 0⟩, ⟨(v : Int), a3, b3, c3⟩)) := by
                  show _ = _
                  have := Hnext.out
                  rw [if_neg (by rw [hin]; simp)] at this
                  exact this
                clear g00 g01 g02 gf hin
                have y0 := block_cell Hp8.out
                have y1 := y0 0; have y2 := y0 1; have y3 := y0 2; have y4 := y0 3
                simp at y1 y2 y3 y4
                clear y0
                have hpx := block_lt Hp8.out
                have hqx := block_lt Hq8.out
                go_wp2_with fail
                refine (with_any (v : Int) a b' c' y j w8 hj3).mono ?_
                rintro e wy ⟨rfl, hby⟩
                rw [hput]
                have Qy := Lib.hid (block_below Hq8.out hby hqx)
                have Py := Lib.hid (block_below Hp8.out hby hpx)
                have Gy := Lib.hid (grown_trans Hg8.out (grown_of_below hby (r := some w1.heap.size)))
                clear hby y1 y2 y3 y4 hpx hqx
                have y0 := block_cell Py.out
                have y1 := y0 0; have y2 := y0 1; have y3 := y0 2; have y4 := y0 3
                have yf := block_free Py.out
                simp at y1 y2 y3 y4
                clear y0
                obtain ⟨p9, gg9⟩ := set4 Py.out (v : Int) a3 b3 c3
                have Pz := Lib.hid p9
                have Qz := Lib.hid (block_grown Qy.out gg9 (by simp; omega))
                have Gz := Lib.hid (grown_at Gy.out gg9 (Nat.le_refl _))
                clear p9 gg9
                go_wp2
                go_roundw
                case rel => exact ⟨j + 1, at3, 0, a3, b3, c3, hjl, Hn2.out, hat3, by go_num, Qz.out, Pz.out, Gz.out⟩
                case measure => simp [intOf]; omega
              · have hin' : inR y = false := by simpa using hin
                rw [hin']
                have Hn2 : Hid (argsS ⟨l, at1, err1⟩ ⟨(v : Int), 0, 0, 0⟩ (j + 1) = (⟨l, at3, 2⟩, ⟨(v : Int), a3, b3, c3⟩)) := by
                  show _ = _
                  have := Hnext.out
                  simpa [hin'] using this
                clear hin hin'
                go_wp2_with fail
                refine (fail_any A n c (at3 : Int) 0 2 w8).mono ?_
                rintro e w10 ⟨rfl, hb10⟩
                have Hq10 := Lib.hid (block_below Hq8.out hb10 hs8)
                have Hp10 := Lib.hid (block_below Hp8.out hb10 hps8)
                have Hg10 := Lib.hid (grown_trans Hg8.out (grown_of_below hb10 (r := some w1.heap.size)))
                clear hb10 g00 g01 g02 gf
                have g0 := block_cell Hq10.out
                have g00 := g0 0; have g01 := g0 1; have g02 := g0 2
                have gf := block_free Hq10.out
                simp at g00 g01 g02
                obtain ⟨q11, gg11⟩ := set3 Hq10.out (.slice A n c) (.int .i64 (at3 : Int)) (.int .i64 2)
                have Hq11 := Lib.hid q11
                have Hp11 := Lib.hid (block_grown Hp10.out gg11 (by simp; omega))
                have Hg11 := Lib.hid (grown_trans Hg10.out gg11)
                clear q11 gg11 g0
                generalize hw11 : ((w10.setCell ⟨w1.heap.size, 0, none⟩ (.slice A n c)).setCell ⟨w1.heap.size, 1, none⟩ (.int .i64 (at3 : Int))).setCell ⟨w1.heap.size, 2, none⟩ (.int .i64 2) = w11 at *
                have y0 := block_cell Hp11.out
                have y1 := y0 0; have y2 := y0 1; have y3 := y0 2; have y4 := y0 3
                simp at y1 y2 y3 y4
                clear y0
                have hpx := block_lt Hp11.out
                have hqx := block_lt Hq11.out
                go_wp2_with fail
                refine (with_any (v : Int) a b' c' y j w11 hj3).mono ?_
                rintro e wy ⟨rfl, hby⟩
                rw [hput]
                have Qy := Lib.hid (block_below Hq11.out hby hqx)
                have Py := Lib.hid (block_below Hp11.out hby hpx)
                have Gy := Lib.hid (grown_trans Hg11.out (grown_of_below hby (r := some w1.heap.size)))
                clear hby y1 y2 y3 y4 hpx hqx
                have y0 := block_cell Py.out
                have y1 := y0 0; have y2 := y0 1; have y3 := y0 2; have y4 := y0 3
                have yf := block_free Py.out
                simp at y1 y2 y3 y4
                clear y0
                obtain ⟨p9, gg9⟩ := set4 Py.out (v : Int) a3 b3 c3
                have Pz := Lib.hid p9
                have Qz := Lib.hid (block_grown Qy.out gg9 (by simp; omega))
                have Gz := Lib.hid (grown_at Gy.out gg9 (Nat.le_refl _))
                clear p9 gg9
                go_wp2
                go_roundw
                case rel => exact ⟨j + 1, at3, 2, a3, b3, c3, hjl, Hn2.out, hat3, by go_num, Qz.out, Pz.out, Gz.out⟩
                case measure => simp [intOf]; omega
            · have b4 : (err3 == 0) = false := by simpa using he3
              have Hn2 : Hid (argsS ⟨l, at1, err1⟩ ⟨(v : Int), 0, 0, 0⟩ (j + 1) = (⟨l, at3, err3⟩, ⟨(v : Int), a3, b3, c3⟩)) := by
                show _ = _
                have := Hnext.out
                rw [if_neg (fun h => he3 h.1)] at this
                exact this
              have y0 := block_cell Hp8.out
              have y1 := y0 0; have y2 := y0 1; have y3 := y0 2; have y4 := y0 3
              simp at y1 y2 y3 y4
              clear y0
              have hpx := block_lt Hp8.out
              have hqx := block_lt Hq8.out
              go_wp2_with fail
              refine (with_any (v : Int) a b' c' y j w8 hj3).mono ?_
              rintro e wy ⟨rfl, hby⟩
              rw [hput]
              have Qy := Lib.hid (block_below Hq8.out hby hqx)
              have Py := Lib.hid (block_below Hp8.out hby hpx)
              have Gy := Lib.hid (grown_trans Hg8.out (grown_of_below hby (r := some w1.heap.size)))
              clear hby y1 y2 y3 y4 hpx hqx
              have y0 := block_cell Py.out
              have y1 := y0 0; have y2 := y0 1; have y3 := y0 2; have y4 := y0 3
              have yf := block_free Py.out
              simp at y1 y2 y3 y4
              clear y0
              obtain ⟨p9, gg9⟩ := set4 Py.out (v : Int) a3 b3 c3
              have Pz := Lib.hid p9
              have Qz := Lib.hid (block_grown Qy.out gg9 (by simp; omega))
              have Gz := Lib.hid (grown_at Gy.out gg9 (Nat.le_refl _))
              clear p9 gg9
              go_wp2
              go_roundw
              case rel => exact ⟨j + 1, at3, err3, a3, b3, c3, hjl, Hn2.out, hat3, by go_num, Qz.out, Pz.out, Gz.out⟩
              case measure => simp [intOf]; omega
          · have hfin : insS ⟨l, at_, 0⟩ = (⟨l, at2, err2⟩, ⟨(v : Int), a, b', c'⟩) := by
              rw [Hins.out]
              by_cases he2 : err2 = 0
              · have hje : j = (hasOf (v : Int)).size := by
                  by_cases h1 : j < (hasOf (v : Int)).size
                  · exact absurd ⟨h1, he2⟩ hgo
                  · omega
                rw [← hje]; exact Hst2.out
              · exact args_err Hst2.out he2 _ hj
            rw [hfin] at Hok
            have Hown6 := Lib.hid (own_grown Hown3.out Hg6.out (by omega))
            have Hlen1 : Hid (n6 + 1 = (L ++ [(⟨(v : Int), a, b', c'⟩ : Ins)]).length) := by
              show _ = _
              rw [List.length_append, ← Hn6.out]; rfl
            have Hfl : Hid (flat L ++ [.int .i64 (v : Int), .int .i64 a, .int .i64 b', .int .i64 c'] = flat (L ++ [(⟨(v : Int), a, b', c'⟩ : Ins)])) := by
              show _ = _
              rw [flat_append]; rfl
            have hqlt : w1.heap.size < w6.heap.size := by omega
            by_cases hjl : j < (hasOf (v : Int)).size
            · have hjl' : (j : Int) < ((hasOf (v : Int)).size : Int) := by omega
              have he2 : ¬ err2 = 0 := fun h => hgo ⟨hjl, h⟩
              have b5 : (err2 == 0) = false := by simpa using he2
              clear hgo he2
              go_wp2_with (at_builtin; go_must (refine wpList_append_lit w6 (by rfl) _ _ 36 (by rfl) (w1.heap.size + 1) 23 i0 (.agg #[.int .i64 0, .int .i64 0, .int .i64 0, .int .i64 0]) 4 32 Tryd.underlying36 HI.out rfl (by decide) _ _ _ (by rfl) Hown6.out 1 1 #[.int .i64 (v : Int), .int .i64 a, .int .i64 b', .int .i64 c'] 23 (by simp [Act.eval]) rfl (by simp [Value.oneCell']) (by omega) (by omega) (by omega) ?_); intro v4 w4 hown4 hbel4)
              obtain ⟨A7, c7, rfl⟩ := own_form hown4
              have Hown7 := Lib.hid hown4
              have Hbel7 := Lib.hid (Hbel6.out.trans (hbel4.mono (by omega)))
              have Hq7 := Lib.hid (block_below Hq6.out hbel4 (by omega))
              have hs7 : w1.heap.size + 1 ≤ w4.heap.size := by have := hbel4.size; omega
              clear hown4 hbel4
              go_wp2
              go_roundw
              case rel => exact ⟨k + 1, n6 + 1, at2, err2, L ++ [⟨(v : Int), a, b', c'⟩], A7, c7, hlt, Hok.out, hat2, by go_num, rfl, Hlen1.out, by omega, by rw [← Hfl.out]; exact Hown7.out, Hq7.out, Hbel7.out, hs7⟩
              case measure => simp [intOf]; omega
            · have hge : (hasOf (v : Int)).size ≤ j := by omega
              clear hgo hjl
              go_wp2_with (at_builtin; go_must (refine wpList_append_lit w6 (by rfl) _ _ 36 (by rfl) (w1.heap.size + 1) 23 i0 (.agg #[.int .i64 0, .int .i64 0, .int .i64 0, .int .i64 0]) 4 32 Tryd.underlying36 HI.out rfl (by decide) _ _ _ (by rfl) Hown6.out 1 1 #[.int .i64 (v : Int), .int .i64 a, .int .i64 b', .int .i64 c'] 23 (by simp [Act.eval]) rfl (by simp [Value.oneCell']) (by omega) (by omega) (by omega) ?_); intro v4 w4 hown4 hbel4)
              obtain ⟨A7, c7, rfl⟩ := own_form hown4
              have Hown7 := Lib.hid hown4
              have Hbel7 := Lib.hid (Hbel6.out.trans (hbel4.mono (by omega)))
              have Hq7 := Lib.hid (block_below Hq6.out hbel4 (by omega))
              have hs7 : w1.heap.size + 1 ≤ w4.heap.size := by have := hbel4.size; omega
              clear hown4 hbel4
              go_wp2
              go_roundw
              case rel => exact ⟨k + 1, n6 + 1, at2, err2, L ++ [⟨(v : Int), a, b', c'⟩], A7, c7, hlt, Hok.out, hat2, by go_num, rfl, Hlen1.out, by omega, by rw [← Hfl.out]; exact Hown7.out, Hq7.out, Hbel7.out, hs7⟩
              case measure => simp [intOf]; omega
      · have b6 : (err == 0) = false := by simpa using her
        have Hs2 : Hid (decS l = (⟨l, at_, err⟩, L)) := by
          show _ = _
          rw [Hs.out, allS_err (by rw [Hst.out]; exact her) m hk, Hst.out]
        clear her hlt
        rw [Hs2.out] at HE HL
        simp only at HE HL
        go_wp2_with fail
        refine (endr_any A n c ⟨l, at_, err⟩ wo Hln.out).mono ?_
        rintro e w5 ⟨rfl, hb5⟩
        have Hbel5 := Lib.hid (Hbel.out.trans (hb5.mono hbels))
        have Hrd5 := Lib.hid (((Rd.of_own Hown.out).below hb5 (Nat.le_refl _)).more hb5.size)
        clear hb5
        by_cases he5 : endRS ⟨l, at_, err⟩ = 0
        · rw [if_neg (by simpa using he5)] at HE
          have b5 : (endRS ⟨l, at_, err⟩ != 0) = false := by simpa using he5
          clear he5
          go_wp2_with fail
          refine (checkr_any A6 n6 c6 L 256 _ Hrd5.out (by omega)).mono ?_
          rintro e w6 ⟨rfl, hb6⟩
          have Hbel6 := Lib.hid (Hbel5.out.trans (hb6.mono Hbel5.out.size))
          have Hrd6 := Lib.hid ((Hrd5.out.below hb6 (Nat.le_refl _)).more hb6.size)
          clear hb6
          by_cases he6 : (checkI L 256).2 = 0
          · have b6 : ((checkI L 256).2 != 0) = false := by simpa using he6
            have HE2 : Hid (decE l = 0) := Lib.hid (HE.out.trans he6)
            go_wp2
            go_ret2
            exact ⟨A6, n6, c6, by rw [HE2.out]; rfl, by rw [HL.out, if_pos HE2.out]; exact Hrd6.out, by rw [HL.out, if_pos HE2.out]; exact Hn6.out, Hbel6.out⟩
          · have b6 : ((checkI L 256).2 != 0) = true := by simpa using he6
            have HE2 : Hid (decL l = []) := by
              show _ = _
              rw [HL.out, if_neg (by rw [HE.out]; exact he6)]
            go_wp2
            go_ret2
            exact ⟨none, 0, 0, by rw [HE.out]; rfl, by rw [HE2.out]; exact Rd.empty, by rw [HE2.out]; rfl, Hbel6.out⟩
        · rw [if_pos (by simpa using he5)] at HE
          have b5 : (endRS ⟨l, at_, err⟩ != 0) = true := by simpa using he5
          have HE2 : Hid (decL l = []) := by
            show _ = _
            rw [HL.out, if_neg (by rw [HE.out]; exact he5)]
          go_wp2
          go_ret2
          exact ⟨none, 0, 0, by rw [HE.out]; rfl, by rw [HE2.out]; exact Rd.empty, by rw [HE2.out]; rfl, Hbel5.out⟩
    · have hkm : k = m := by omega
      have Hs2 : Hid (decS l = (⟨l, at_, err⟩, L)) := by
        show _ = _
        rw [Hs.out, ← hkm, Hst.out]
      have hge : m ≤ k := by omega
      clear hkm hlt
      rw [Hs2.out] at HE HL
      simp only at HE HL
      go_wp2_with fail
      refine (endr_any A n c ⟨l, at_, err⟩ wo Hln.out).mono ?_
      rintro e w5 ⟨rfl, hb5⟩
      have Hbel5 := Lib.hid (Hbel.out.trans (hb5.mono hbels))
      have Hrd5 := Lib.hid (((Rd.of_own Hown.out).below hb5 (Nat.le_refl _)).more hb5.size)
      clear hb5
      by_cases he5 : endRS ⟨l, at_, err⟩ = 0
      · rw [if_neg (by simpa using he5)] at HE
        have b5 : (endRS ⟨l, at_, err⟩ != 0) = false := by simpa using he5
        clear he5
        go_wp2_with fail
        refine (checkr_any A6 n6 c6 L 256 _ Hrd5.out (by omega)).mono ?_
        rintro e w6 ⟨rfl, hb6⟩
        have Hbel6 := Lib.hid (Hbel5.out.trans (hb6.mono Hbel5.out.size))
        have Hrd6 := Lib.hid ((Hrd5.out.below hb6 (Nat.le_refl _)).more hb6.size)
        clear hb6
        by_cases he6 : (checkI L 256).2 = 0
        · have b6 : ((checkI L 256).2 != 0) = false := by simpa using he6
          have HE2 : Hid (decE l = 0) := Lib.hid (HE.out.trans he6)
          go_wp2
          go_ret2
          exact ⟨A6, n6, c6, by rw [HE2.out]; rfl, by rw [HL.out, if_pos HE2.out]; exact Hrd6.out, by rw [HL.out, if_pos HE2.out]; exact Hn6.out, Hbel6.out⟩
        · have b6 : ((checkI L 256).2 != 0) = true := by simpa using he6
          have HE2 : Hid (decL l = []) := by
            show _ = _
            rw [HL.out, if_neg (by rw [HE.out]; exact he6)]
          go_wp2
          go_ret2
          exact ⟨none, 0, 0, by rw [HE.out]; rfl, by rw [HE2.out]; exact Rd.empty, by rw [HE2.out]; rfl, Hbel6.out⟩
      · rw [if_pos (by simpa using he5)] at HE
        have b5 : (endRS ⟨l, at_, err⟩ != 0) = true := by simpa using he5
        have HE2 : Hid (decL l = []) := by
          show _ = _
          rw [HL.out, if_neg (by rw [HE.out]; exact he5)]
        go_wp2
        go_ret2
        exact ⟨none, 0, 0, by rw [HE.out]; rfl, by rw [HE2.out]; exact Rd.empty, by rw [HE2.out]; rfl, Hbel5.out⟩
end Go.Proofs.YtecolkpnllikaaaDoor
