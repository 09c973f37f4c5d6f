/- The walk of the reference's Encode. Condition: a bound on how many. -/
import Derived.Test.YtecolkpnllikaaaDoorEnc
namespace Go.Proofs.YtecolkpnllikaaaDoor
open Go.RowKit Go.Lib
set_option maxRecDepth 100000 in
set_option maxHeartbeats 4000000 in
theorem encoder_any (A : Option Addr) (n c : Nat) (l : List Ins) (w : World) (hr : Rd w w.heap.size 4 A n (flat l)) (hn : n ≤ 1000000) :
    Calls Tryd.prog 26 #[.slice A n c] w (GivesBE w (encL l) (checkI l 256).2) := by
  obtain ⟨i0, hi, hz0, hz1, hz2⟩ := info_parts info_u8
  have HI := Lib.hid (And.intro hi (And.intro hz0 (And.intro hz1 hz2))); clear hi hz0 hz1 hz2
  have hl : l.length = n := by have := hr.1; rw [flat_len] at this; omega
  have Hl := Lib.hid hl; have Hr := Lib.hid hr
  clear hl hr
  go_enter Tryd.func26, Tryd.ntmps26
  go_wp2_with fail
  refine (checkr_any A n c l 256 w Hr.out hn).mono ?_
  rintro e w1 ⟨rfl, hb1⟩
  have Hb1 := Lib.hid hb1; clear hb1
  by_cases he' : ¬ (checkI l 256).2 = 0
  · have hne : ((checkI l 256).2 != 0) = true := by simpa using he'
    have Hz : Hid (encL l = []) := by show encL l = []; unfold encL; rw [if_neg he']
    clear he'
    go_wp2
    go_ret2
    exact ⟨none, 0, 0, rfl, by rw [Hz.out]; exact Rd.empty, by rw [Hz.out]; rfl, Nat.le_refl _, Hb1.out⟩
  have he : (checkI l 256).2 = 0 := by simpa using he'
  have Hc := Lib.hid (checked he)
  have Hz : Hid (encL l = allB l l.length) := by show _ = _; unfold encL; rw [if_pos he]
  have hn2 : n ≤ 2048 := by have := Hc.out.2.1; have := Hl.out; omega
  have He0 := Lib.hid he
  rw [he]
  clear he he'
  go_wp2_with fail
  refine (numr_any n w1 (by omega)).mono ?_
  rintro e w2 ⟨A2, n2, c2, rfl, hown2, hn2', hb2⟩
  have Hown2 : Hid (w2.ownsRow w1.heap.size 5 1 (.slice A2 n2 c2) n2 (bv (allB l 0))) := by
    show World.ownsRow _ _ _ _ _ _ _
    have e0 : allB l 0 = encN n := by simp [allB, Hl.out]
    rw [e0]; exact hown2
  have Hn2 : Hid (n2 = (allB l 0).length) := by
    show _ = _
    have e0 : allB l 0 = encN n := by simp [allB, Hl.out]
    rw [e0]; exact hn2'
  have Hb2 := Lib.hid (Hb1.out.trans (hb2.mono Hb1.out.size))
  have hs12 : w1.heap.size ≤ w2.heap.size := hb2.size
  have hs01 : w.heap.size ≤ w1.heap.size := Hb1.out.size
  clear hown2 hn2' hb2
  go_wp2
  go_loopw [6, 7] (fun v i wr => ∃ (k n6 : Nat) (A6 : Option Addr) (c6 : Nat), k ≤ n ∧ i = .int .i64 k ∧ v = .slice A6 n6 c6 ∧ n6 = (allB l k).length ∧ wr.ownsRow w1.heap.size 5 1 (.slice A6 n6 c6) n6 (bv (allB l k)) ∧ Below w.heap.size w wr ∧ w1.heap.size ≤ wr.heap.size) (fun _ i _ => n - (intOf i).toNat)
  case atStart => exact ⟨0, n2, A2, c2, Nat.zero_le _, rfl, rfl, Hn2.out, Hown2.out, Hb2.out, hs12⟩
  case round =>
    obtain ⟨wo, rfl⟩ : ∃ wo : World, wo = wr := ⟨_, rfl⟩
    obtain ⟨k, n6, A6, c6, hk, rfl, rfl, hn6, hown6, hbel, hs1r⟩ := hrel
    have hn6b : n6 ≤ 11 + 44 * k := by rw [hn6]; exact allB_len l k
    have Hn6 := Lib.hid hn6; have Hown6 := Lib.hid hown6; have Hbel := Lib.hid hbel
    clear hn6 hown6
    by_cases hlt : k < n
    · obtain ⟨b, o, rfl, hbB, x0, x1, x2, x3⟩ := (Hr.out.below hbel (Nat.le_refl _)).ins hlt
      have hx0 := (Hr.out).ins hlt
      have hkl : k < l.length := by rw [Hl.out]; exact hlt
      have hright := Hc.out.2.2 k hkl
      have Hsucc := Lib.hid (allB_succ hkl)
      generalize hid_i : l.getD k default = i at *
      obtain ⟨op, a, b', c''⟩ := i
      simp only at x0 x1 x2 x3 hx0
      obtain ⟨bb, oo, hAA, _, y0, y1, y2, y3⟩ := hx0
      simp only [Option.some.injEq, Addr.mk.injEq, and_true] at hAA
      obtain ⟨rfl, rfl⟩ := hAA
      have hrange := right_range (by have := Hc.out.2.1; omega) (by omega) hright
      have hop := right_op hright
      obtain ⟨p, rfl⟩ := Int.eq_ofNat_of_zero_le hop.1
      have hp22 : p < 22 := by have := hop.2; simp only at this; omega
      have Hrange := Lib.hid hrange
      have hszr := hbel.size
      have Hy := Lib.hid (And.intro y0 (And.intro y1 (And.intro y2 y3)))
      clear hright hrange hop hid_i hbel hkl y0 y1 y2 y3
      have hi0 : (0 : Int) ≤ (k : Int) := by omega
      have hi1 : (k : Int) < (n : Int) := by omega
      go_wp2_with fail
      refine (numr_any p wo (by omega)).mono ?_
      rintro e w3 ⟨A3, n3, c3, rfl, hown3, hn3, hb3⟩
      have Hone3 := Lib.hid (Rd.of_own hown3)
      have Hn3 := Lib.hid hn3
      have hn3b : n3 ≤ 11 := by rw [hn3]; exact encN_len p
      have Hown3 := Lib.hid (own_below Hown6.out hb3)
      have Hbel3 := Lib.hid (Hbel.out.trans (hb3.mono hszr))
      have hs3 : w1.heap.size ≤ w3.heap.size := by have := hb3.size; omega
      clear hown3 hn3 hb3 x0 x1 x2 x3
      have z0 := ((bcell Hbel3.out).1 b (o + k * 4) hbB).trans Hy.out.1
      have z1 := ((bcell Hbel3.out).1 b (o + k * 4 + 1) hbB).trans Hy.out.2.1
      have z2 := ((bcell Hbel3.out).1 b (o + k * 4 + 2) hbB).trans Hy.out.2.2.1
      have z3 := ((bcell Hbel3.out).1 b (o + k * 4 + 3) hbB).trans Hy.out.2.2.2
      go_wp2_with (at_builtin; go_must (refine wpList_append_rd w3 (by rfl) _ _ 48 (by rfl) w1.heap.size 5 i0 (.int .u8 0) 1 1 Tryd.underlying48 HI.out rfl (by decide) _ _ _ (by rfl) Hown3.out w3.heap.size A3 n3 c3 (bv (encN p)) (by rfl) Hone3.out (bv_one _) (by omega) (by omega) hs3 ?_); intro v4 w4 hown4 hb4; obtain ⟨A4, c4, rfl⟩ := own_form hown4; have Hown4 := Lib.hid hown4; have Hbel4 := Lib.hid (Hbel3.out.trans (hb4.mono hs01)); have hs4 : w1.heap.size ≤ w4.heap.size := Nat.le_trans hs3 hb4.size; clear hown4 hb4 z0 z1 z2 z3; have q0 := ((bcell Hbel4.out).1 b (o + k * 4) hbB).trans Hy.out.1; have q1 := ((bcell Hbel4.out).1 b (o + k * 4 + 1) hbB).trans Hy.out.2.1; have q2 := ((bcell Hbel4.out).1 b (o + k * 4 + 2) hbB).trans Hy.out.2.2.1; have q3 := ((bcell Hbel4.out).1 b (o + k * 4 + 3) hbB).trans Hy.out.2.2.2)
      refine (threer_any _ _ _ _ _).mono ?_
      rintro e w5 ⟨rfl, hb5⟩
      have Hown5 := Lib.hid ((own_below Hown4.out hb5).alloc (.cells #[.int .i64 a, .int .i64 b', .int .i64 c''] 67))
      have hs45 : w4.heap.size ≤ w5.heap.size := hb5.size
      have Hbel5 := Lib.hid ((Hbel4.out.trans (hb5.mono (by omega))).alloc (by omega) (.cells #[.int .i64 a, .int .i64 b', .int .i64 c''] 67))
      have Hth5 := Lib.hid (heap_alloc_new w5 (.cells #[.int .i64 a, .int .i64 b', .int .i64 c''] 67))
      have Hlen0 : Hid (n6 + n3 = (allB l k ++ oneB (p : Int) a b' c'' 0).length) := by
        show _ = _
        rw [List.length_append, ← Hn6.out, Hn3.out]; simp [oneB]
      have Hlst0 : Hid (bv (allB l k) ++ bv (encN p) = bv (allB l k ++ oneB (p : Int) a b' c'' 0)) := by
        show _ = _
        rw [bv_append]; simp [oneB]
      clear hb5 q0 q1 q2 q3
      have hps := hasOf_size (p : Int)
      go_wp2
      go_loopw [6, 9] (fun v i wr => ∃ (j n9 : Nat) (A9 : Option Addr) (c9 : Nat), j ≤ (hasOf (p : Int)).size ∧ i = .int .i64 j ∧ v = .slice A9 n9 c9 ∧ n9 = (allB l k ++ oneB (p : Int) a b' c'' j).length ∧ wr.heap[w5.heap.size]? = some (.cells #[.int .i64 a, .int .i64 b', .int .i64 c''] 67) ∧
          wr.ownsRow w1.heap.size 5 1 (.slice A9 n9 c9) n9 (bv (allB l k ++ oneB (p : Int) a b' c'' j)) ∧ Below w.heap.size w wr ∧ w1.heap.size ≤ w5.heap.size)
        (fun _ i _ => (hasOf (p : Int)).size - (intOf i).toNat)
      case atStart =>
        exact ⟨0, n6 + n3, A4, c4, Nat.zero_le _, rfl, rfl, Hlen0.out, Hth5.out, by rw [← Hlst0.out]; exact Hown5.out, Hbel5.out, by omega⟩
      case round =>
        obtain ⟨j, n9, A9, c9, hj, rfl, rfl, hn9, hth, hown, hbelq, hs15⟩ := hrel
        have hn9b : n9 ≤ 11 + 44 * k + 44 := by
          rw [hn9, List.length_append]
          have := allB_len l k
          have := oneB_len (p : Int) a b' c'' j
          omega
        have z0 := ((bcell hbelq).1 b (o + k * 4) hbB).trans Hy.out.1
        have hsr := hbelq.size
        have hthr : w5.heap.size < wr.heap.size := block_lt hth
        have Hth := Lib.hid hth; have Hown := Lib.hid hown; have Hbelq := Lib.hid hbelq; have Hn9 := Lib.hid hn9
        clear hth hown hbelq hn9
        go_wp2_with fail
        refine (hasr_any _ _).mono ?_
        rintro e w7 ⟨rfl, hb7⟩
        have Hth7 := Lib.hid (block_below Hth.out hb7 hthr)
        have Hown7 := Lib.hid (own_below Hown.out hb7)
        have Hbel7 := Lib.hid (Hbelq.out.trans (hb7.mono hsr))
        have hs7 : wr.heap.size ≤ w7.heap.size := hb7.size
        clear hb7 z0
        have hq0 : (0 : Int) ≤ (j : Int) := by omega
        by_cases hjl : j < (hasOf (p : Int)).size
        · have hj3 : j < 3 := by omega
          have hq1 : (j : Int) < 3 := by omega
          have htc : w7.cell? ⟨w5.heap.size, j, none⟩ = some (.int .i64 (three a b' c'' j)) := by
            rw [block_cell Hth7.out j]
            match j, hj3 with
            | 0, _ => rfl
            | 1, _ => rfl
            | 2, _ => rfl
          have Hrg := Lib.hid (Hrange.out j hj3)
          go_wp2_with fail
          refine (fold_any _ _ (by have := Hrg.out; omega) (by have := Hrg.out; omega)).mono ?_
          rintro e w8 ⟨rfl, rfl⟩
          go_wp2_with fail
          refine (numr_any _ _ (foldN_lt (by have := Hrg.out; omega) (by have := Hrg.out; omega))).mono ?_
          rintro e w8 ⟨A8, n8, c8, rfl, hown8, hn8, hb8⟩
          have hn8b : n8 ≤ 11 := by rw [hn8]; exact encN_len _
          have Hth8 := Lib.hid (block_below Hth7.out hb8 (by omega))
          have Hone8 := Lib.hid (Rd.of_own hown8)
          have Hown8 := Lib.hid (own_below Hown7.out hb8)
          have Hbel8 := Lib.hid (Hbel7.out.trans (hb8.mono (by omega)))
          have Hn8 := Lib.hid hn8
          have hs8 : w7.heap.size ≤ w8.heap.size := hb8.size
          clear hown8 hn8 hb8 htc
          go_wp2_with (at_builtin; go_must (refine wpList_append_rdg w8 (by rfl) _ _ 48 (by rfl) w1.heap.size 5 i0 (.int .u8 0) 1 1 Tryd.underlying48 HI.out rfl (by decide) _ _ _ (by rfl) Hown8.out w8.heap.size A8 n8 c8 (bv (encN (foldN (three a b' c'' j)))) (by rfl) Hone8.out (bv_one _) (by omega) (by omega) (by omega) ?_); intro v10 w10 hown10 hb10 hg10)
          obtain ⟨A10, c10, rfl⟩ := own_form hown10
          have Hth10 : Hid (w10.heap[w5.heap.size]? = some (.cells #[.int .i64 a, .int .i64 b', .int .i64 c''] 67)) := by
            exact block_grown Hth8.out hg10 (own_ne Hown8.out Hth8.out (by decide))
          have Hbel10 := Lib.hid (Hbel8.out.trans (hb10.mono hs01))
          have Hl1 : Hid (n9 + n8 = (allB l k ++ oneB (p : Int) a b' c'' (j + 1)).length) := by
            show _ = _
            rw [Hn9.out, Hn8.out, oneB]; simp [Nat.add_assoc]
          have Hl2 : Hid (bv (allB l k ++ oneB (p : Int) a b' c'' j) ++ bv (encN (foldN (three a b' c'' j))) = bv (allB l k ++ oneB (p : Int) a b' c'' (j + 1))) := by
            show _ = _
            rw [← bv_append, oneB, List.append_assoc]
          have Hown10 := Lib.hid hown10
          clear hown10 hb10 hg10
          go_wp2
          go_roundw
          case rel => exact ⟨j + 1, n9 + n8, A10, c10, hjl, by go_num, rfl, Hl1.out, Hth10.out, by rw [← Hl2.out]; exact Hown10.out, Hbel10.out, hs15⟩
          case measure => simp [intOf]; omega
        · have hje : j = (hasOf (p : Int)).size := by omega
          have Hje := Lib.hid hje
          have Hl1 : Hid (n9 = (allB l (k + 1)).length) := by
            show _ = _
            rw [Hn9.out, Hsucc.out, Hje.out]; rfl
          have Hl2 : Hid (bv (allB l k ++ oneB (p : Int) a b' c'' j) = bv (allB l (k + 1))) := by
            show _ = _
            rw [Hsucc.out, Hje.out]; rfl
          have hge : (hasOf (p : Int)).size ≤ j := by omega
          clear hje hjl
          go_wp2
          go_roundw
          case rel => exact ⟨k + 1, n9, A9, c9, hlt, by go_num, rfl, Hl1.out, by rw [← Hl2.out]; exact Hown7.out, Hbel7.out, by omega⟩
          case measure => simp [intOf]; omega
    · have hkn : k = n := by omega
      have Hk := Lib.hid hkn
      have Hbelr := Lib.hid hbel
      clear hkn hbel
      go_wp2
      go_ret2
      have e1 : l.length = k := by rw [Hl.out, Hk.out]
      refine ⟨A6, n6, c6, by rw [He0.out]; rfl, ?_, ?_, ownCap Hown6.out, Hbelr.out⟩
      · rw [Hz.out, e1]; exact Rd.of_own Hown6.out
      · rw [Hz.out, e1]; exact Hn6.out
end Go.Proofs.YtecolkpnllikaaaDoor
