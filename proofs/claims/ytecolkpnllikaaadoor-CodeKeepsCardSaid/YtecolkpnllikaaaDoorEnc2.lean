/- The walk of layer 14's Encode. Condition: the table of operations reads as laid; a bound on how many. -/
import Derived.Test.YtecolkpnllikaaaDoorEnc
namespace Go.Proofs.YtecolkpnllikaaaDoor
open Go.RowKit Go.Lib
set_option maxRecDepth 100000 in
set_option maxHeartbeats 4000000 in
theorem encode_any (A : Option Addr) (n c : Nat) (l : List Ins) (w : World) (hT : OpTab w) (hr : Rd w w.heap.size 4 A n (flat l)) (hn : n ≤ 1000000) :
    Calls Tryd.prog 25 #[.slice A n c] w (GivesBE w (encL l) (checkI l 256).2) := by
  obtain ⟨i0, hi, hz0, hz1, hz2⟩ := info_parts info_u8
  have HI := Lib.hid (And.intro hi (And.intro hz0 (And.intro hz1 hz2))); clear hi hz0 hz1 hz2
  have hl : l.length = n := by have := hr.1; rw [flat_len] at this; omega
  have Hl := Lib.hid hl; have Hr := Lib.hid hr; have HT := Lib.hid hT
  clear hl hr hT
  go_enter Tryd.func25, Tryd.ntmps25
  go_wp2_with fail
  refine (check_any A n c l 256 w HT.out Hr.out hn).mono ?_
  rintro e w1 ⟨rfl, hb1⟩
  have Hb1 := Lib.hid hb1; have HT1 := Lib.hid (HT.out.below hb1 HT.out.1); clear hb1
  by_cases he' : ¬ (checkI l 256).2 = 0
  · have hne : ((checkI l 256).2 != 0) = true := by simpa using he'
    have Hz : Hid (encL l = []) := by show encL l = []; unfold encL; rw [if_neg he']
    clear he'
    go_wp2
    go_ret2
    exact ⟨none, 0, 0, rfl, by rw [Hz.out]; exact Rd.empty, by rw [Hz.out]; rfl, Nat.le_refl _, Hb1.out⟩
  have he : (checkI l 256).2 = 0 := by simpa using he'
  have Hc := Lib.hid (checked he)
  have Hz : Hid (encL l = allB l l.length) := by show _ = _; unfold encL; rw [if_pos he]
  have hn2 : n ≤ 2048 := by have := Hc.out.2.1; have := Hl.out; omega
  have He0 := Lib.hid he
  rw [he]
  clear he he'
  go_wp2_with fail
  refine (putNum_any none 0 0 n [] w1 Rd.empty (by omega) (by omega)).mono ?_
  rintro e w2 ⟨A2, n2, c2, rfl, hown2, hn2', hb2⟩
  have h11 := allB_len l 0
  have Hown2 : Hid (w2.ownsRow w1.heap.size 5 1 (.slice A2 n2 c2) n2 (bv (allB l 0))) := by
    show World.ownsRow _ _ _ _ _ _ _
    have e0 : allB l 0 = [] ++ encN n := by simp [allB, Hl.out]
    rw [e0]; exact hown2
  have Hn2 : Hid (n2 = (allB l 0).length) := by
    show _ = _
    have e0 : allB l 0 = [] ++ encN n := by simp [allB, Hl.out]
    rw [e0]; exact hn2'
  have Hb2 := Lib.hid (Hb1.out.trans (hb2.mono Hb1.out.size))
  have hs12 : w1.heap.size ≤ w2.heap.size := hb2.size
  have hs01 : w.heap.size ≤ w1.heap.size := Hb1.out.size
  clear hown2 hn2' hb2
  go_wp2
  go_loopw [6, 26] (fun v i wr => ∃ (k n6 : Nat) (A6 : Option Addr) (c6 : Nat), k ≤ n ∧ i = .int .i64 k ∧ v = .slice A6 n6 c6 ∧ n6 = (allB l k).length ∧ wr.ownsRow w1.heap.size 5 1 (.slice A6 n6 c6) n6 (bv (allB l k)) ∧ Below w.heap.size w wr ∧ w1.heap.size ≤ wr.heap.size) (fun _ i _ => n - (intOf i).toNat)
  case atStart => exact ⟨0, n2, A2, c2, Nat.zero_le _, rfl, rfl, Hn2.out, Hown2.out, Hb2.out, hs12⟩
  case round =>
    obtain ⟨wo, rfl⟩ : ∃ wo : World, wo = wr := ⟨_, rfl⟩
    obtain ⟨k, n6, A6, c6, hk, rfl, rfl, hn6, hown6, hbel, hs1r⟩ := hrel
    have hn6b : n6 ≤ 11 + 44 * k := by rw [hn6]; exact allB_len l k
    have Hn6 := Lib.hid hn6; have Hown6 := Lib.hid hown6; have Hbel := Lib.hid hbel
    clear hn6 hown6
    by_cases hlt : k < n
    · obtain ⟨b, o, rfl, hbB, x0, x1, x2, x3⟩ := (Hr.out.below hbel (Nat.le_refl _)).ins hlt
      have hkl : k < l.length := by rw [Hl.out]; exact hlt
      have hright := Hc.out.2.2 k hkl
      have Hsucc := Lib.hid (allB_succ hkl)
      generalize hid_i : l.getD k default = i at *
      obtain ⟨op, a, b', c''⟩ := i
      simp only at x0 x1 x2 x3
      have hrange := right_range (by have := Hc.out.2.1; omega) (by omega) hright
      have hop := right_op hright
      obtain ⟨p, rfl⟩ := Int.eq_ofNat_of_zero_le hop.1
      have hp22 : p < 22 := by have := hop.2; simp only at this; omega
      have Hrange := Lib.hid hrange
      have hszr := hbel.size
      clear hright hrange hop hid_i hbel hkl
      have hi0 : (0 : Int) ≤ (k : Int) := by omega
      have hi1 : (k : Int) < (n : Int) := by omega
      have HTr := Lib.hid (HT.out.below Hbel.out HT.out.1)
      have Hown7 := Lib.hid (Hown6.out.alloc (.cells #[.int .i64 (p : Int), .int .i64 a, .int .i64 b', .int .i64 c''] 24))
      have Hbx7 := Lib.hid (heap_alloc_new wo (.cells #[.int .i64 (p : Int), .int .i64 a, .int .i64 b', .int .i64 c''] 24))
      have Hbel7 := Lib.hid (Hbel.out.alloc hszr (.cells #[.int .i64 (p : Int), .int .i64 a, .int .i64 b', .int .i64 c''] 24))
      have HT7 := Lib.hid (HTr.out.alloc (.cells #[.int .i64 (p : Int), .int .i64 a, .int .i64 b', .int .i64 c''] 24))
      go_wp2_with fail
      refine (putNum_any none 0 0 p [] _ Rd.empty (by omega) (by omega)).mono ?_
      rintro e w3 ⟨A3, n3, c3, rfl, hown3, hn3, hb3⟩
      have Hbx3 := Lib.hid (block_below Hbx7.out hb3 (by simp))
      have c0 := block_cell Hbx3.out 0
      have c1 := block_cell Hbx3.out 1
      have c2_ := block_cell Hbx3.out 2
      have c3_ := block_cell Hbx3.out 3
      simp at c0 c1 c2_ c3_
      have hlt3 : wo.heap.size < w3.heap.size := block_lt Hbx3.out
      have Hone3 := Lib.hid (Rd.of_own hown3)
      have Hn3 := Lib.hid hn3
      have Hown3 := Lib.hid (own_below Hown7.out hb3)
      have Hbel3 := Lib.hid (Hbel7.out.trans (hb3.mono (by simp; omega)))
      have HT3 := Lib.hid (HT7.out.below hb3 HT7.out.1)
      clear hown3 hn3 hb3
      go_wp2_with fail
      refine (three_any _ _ _ _ _).mono ?_
      rintro e w4 ⟨rfl, hb4⟩
      have Hbx4 := Lib.hid (block_below Hbx3.out hb4 hlt3)
      have d0 := block_cell Hbx4.out 0
      have d1 := block_cell Hbx4.out 1
      have d2 := block_cell Hbx4.out 2
      have d3 := block_cell Hbx4.out 3
      simp at d0 d1 d2 d3
      have hlt4 : wo.heap.size < w4.heap.size := block_lt Hbx4.out
      have hs34 : w3.heap.size ≤ w4.heap.size := hb4.size
      have Hth4 := Lib.hid (heap_alloc_new w4 (.cells #[.int .i64 a, .int .i64 b', .int .i64 c''] 67))
      have Hone4 := Lib.hid ((Hone3.out.below hb4 (Nat.le_refl _)).alloc hb4.size (.cells #[.int .i64 a, .int .i64 b', .int .i64 c''] 67))
      have Hown4 := Lib.hid ((own_below Hown3.out hb4).alloc (.cells #[.int .i64 a, .int .i64 b', .int .i64 c''] 67))
      have Hbel4 := Lib.hid ((Hbel3.out.trans (hb4.mono (by omega))).alloc (by omega) (.cells #[.int .i64 a, .int .i64 b', .int .i64 c''] 67))
      have HT4 := Lib.hid ((HT3.out.below hb4 HT3.out.1).alloc (.cells #[.int .i64 a, .int .i64 b', .int .i64 c''] 67))
      clear hb4 c0 c1 c2_ c3_
      go_wp2_with fail
      refine (has_any _ _ _ _ _ HT4.out).mono ?_
      rintro e w5 ⟨rfl, hb5⟩
      have hs45 : w4.heap.size < w5.heap.size := by have := hb5.size; simp at this; omega
      have Hth5 := Lib.hid (block_below Hth4.out hb5 (by simp))
      have Hone5 := Lib.hid (Hone4.out.below hb5 (by simp; omega))
      have Hown5 := Lib.hid (own_below Hown4.out hb5)
      have Hbel5 := Lib.hid (Hbel4.out.trans (hb5.mono (by simp; omega)))
      clear hb5 d0 d1 d2 d3
      go_wp2
      have hps := hasOf_size (p : Int)
      have Hone6 : Hid (Rd (w5.iter (hasOf (p : Int)) 0) (w5.iter (hasOf (p : Int)) 0).heap.size 1 A3 n3 (bv (oneB (p : Int) a b' c'' 0))) := by
        have h := ((Hone5.out.more (B' := w5.heap.size) (by omega)).alloc (Nat.le_refl _) (.stringIter (hasOf (p : Int)) 0)).more (B' := (w5.alloc (.stringIter (hasOf (p : Int)) 0)).heap.size) (by simp)
        have e : oneB (p : Int) a b' c'' 0 = [] ++ encN p := by simp [oneB]
        show Rd _ _ _ _ _ _
        rw [e]; exact h
      go_loopw [9] (fun v wr => ∃ (j n9 : Nat) (A9 : Option Addr) (c9 : Nat), j ≤ (hasOf (p : Int)).size ∧ v = .slice A9 n9 c9 ∧ n9 = (oneB (p : Int) a b' c'' j).length ∧ wr.heap[w5.heap.size]? = some (.stringIter (hasOf (p : Int)) j) ∧ wr.heap[w4.heap.size]? = some (.cells #[.int .i64 a, .int .i64 b', .int .i64 c''] 67) ∧
          Rd wr wr.heap.size 1 A9 n9 (bv (oneB (p : Int) a b' c'' j)) ∧ wr.ownsRow w1.heap.size 5 1 (.slice A6 n6 c6) n6 (bv (allB l k)) ∧ Below w.heap.size w wr)
        (fun _ wr => (hasOf (p : Int)).size - wr.iterPos w5.heap.size)
      case atStart =>
        exact ⟨0, n3, A3, c3, Nat.zero_le _, rfl, by rw [Hn3.out]; simp [oneB], World.iter_heap _ _ _, block_iter Hth5.out _ _, Hone6.out, Hown5.out.alloc _, Hbel5.out.alloc (by omega) _⟩
      case round =>
        obtain ⟨j, n9, A9, c9, hj, rfl, hn9, hit, hth, hone, hown, hbelq⟩ := hrel
        have hn9b : n9 ≤ 44 := by rw [hn9]; have := oneB_len (p : Int) a b' c'' j; omega
        have hswq : w5.heap.size < wr.heap.size := block_lt hit
        have Hpos := Lib.hid (iterPos_of hit)
        by_cases hjl : j < (hasOf (p : Int)).size
        · obtain ⟨w7, hrun, hit7, hsz7, hg7⟩ := iter_next (P := Tryd.prog) 0 hit (chr (p : Int) j) (chr_at hjl) (chr_ascii (p : Int) j)
          have hth7 := block_grown hth hg7 (by simp; omega)
          have Hown7' := Lib.hid (own_iter hown hit hg7)
          have Hone7 := Lib.hid ((hone.iter (by omega) hit hg7).more (B' := w7.heap.size) (by omega))
          have Hbel7' := Lib.hid (hbelq.grown hg7 (by omega) (by simp; omega))
          have hj3 : j < 3 := by omega
          have htc : w7.cell? ⟨w4.heap.size, j, none⟩ = some (.int .i64 (three a b' c'' j)) := by
            rw [block_cell hth7 j]
            match j, hj3 with
            | 0, _ => rfl
            | 1, _ => rfl
            | 2, _ => rfl
          have hrg := Hrange.out j hj3
          have Hrg := Lib.hid hrg
          have hsw7 : w5.heap.size < w7.heap.size := block_lt hit7
          have Hit7 := Lib.hid hit7; have Hth7 := Lib.hid hth7; have Hn9 := Lib.hid hn9
          have hq0 : (0 : Int) ≤ (j : Int) := by omega
          have hq1 : (j : Int) < 3 := by omega
          have hs7 : w.heap.size ≤ w7.heap.size := by omega
          clear hit hth hone hown hbelq hg7 hsz7 hit7 hth7 hn9 hrg
          go_wp2_with fail
          refine (putInt_any A9 n9 c9 (three a b' c'' j) (oneB (p : Int) a b' c'' j) w7 Hone7.out (by omega) (by have := Hrg.out; omega) (by have := Hrg.out; omega)).mono ?_
          rintro e w8 ⟨A8, n8, c8, rfl, hown8, hn8, hb8⟩
          have Hit8 := Lib.hid (block_below Hit7.out hb8 hsw7)
          have Hth8 := Lib.hid (block_below Hth7.out hb8 (by omega))
          have Hone8 := Lib.hid (Rd.of_own hown8)
          have Hown8 := Lib.hid (own_below Hown7'.out hb8)
          have Hbel8 := Lib.hid (Hbel7'.out.trans (hb8.mono hs7))
          have Hn8 := Lib.hid hn8
          have Hpos8 := Lib.hid (iterPos_of Hit8.out)
          clear hown8 hn8 hb8
          go_wp2
          go_roundw
          case rel => exact ⟨j + 1, n8, A8, c8, hjl, rfl, Hn8.out, Hit8.out, Hth8.out, Hone8.out, Hown8.out, Hbel8.out⟩
          case measure => rw [Hpos.out, Hpos8.out]; omega
        · have hje : j = (hasOf (p : Int)).size := by omega
          have hrun := iter_end (P := Tryd.prog) 0 hit (by omega : (hasOf (p : Int)).size ≤ j)
          have Hje := Lib.hid hje; have Hone := Lib.hid hone; have Hown := Lib.hid hown; have Hbelq := Lib.hid hbelq
          have hswq2 : w1.heap.size ≤ wr.heap.size := by omega
          clear hje hone hown hbelq hit hth hn9 hjl
          go_wp2_with (at_builtin; go_must (refine wpList_append_rd wr (by rfl) _ _ 48 (by rfl) w1.heap.size 5 i0 (.int .u8 0) 1 1 Tryd.underlying48 HI.out rfl (by decide) _ _ _ (by rfl) Hown.out wr.heap.size A9 n9 c9 (bv (oneB (p : Int) a b' c'' j)) (by rfl) Hone.out (bv_one _) (by omega) (by omega) hswq2 ?_); intro v10 w10 hown10 hb10)
          obtain ⟨A10, c10, rfl⟩ := own_form hown10
          have hb10s := hb10.size
          have Hbel10 := Lib.hid (Hbelq.out.trans (hb10.mono hs01))
          have Hown10 := Lib.hid hown10
          have Hl1 : Hid (n6 + n9 = (allB l (k + 1)).length) := by
            show _ = _
            rw [Hsucc.out, List.length_append, ← Hn6.out]
            have := Hone.out.1
            rw [bv_len, Hje.out] at this
            show _ = _ + (Ins.bytes ⟨(p : Int), a, b', c''⟩).length
            rw [show Ins.bytes ⟨(p : Int), a, b', c''⟩ = oneB (p : Int) a b' c'' (hasOf (p : Int)).size from rfl]
            omega
          have Hl2 : Hid (bv (allB l k) ++ bv (oneB (p : Int) a b' c'' j) = bv (allB l (k + 1))) := by
            show _ = _
            rw [Hsucc.out, bv_append, Hje.out]; rfl
          clear hown10 hb10
          go_wp2
          go_roundw
          case rel => exact ⟨k + 1, n6 + n9, A10, c10, hlt, by go_num, rfl, Hl1.out, by rw [← Hl2.out]; exact Hown10.out, Hbel10.out, by omega⟩
          case measure => simp [intOf]; omega
    · have hkn : k = n := by omega
      have Hk := Lib.hid hkn
      have Hbelr := Lib.hid hbel
      clear hkn hbel
      go_wp2
      go_ret2
      have e1 : l.length = k := by rw [Hl.out, Hk.out]
      refine ⟨A6, n6, c6, by rw [He0.out]; rfl, ?_, ?_, ownCap Hown6.out, Hbelr.out⟩
      · rw [Hz.out, e1]; exact Rd.of_own Hown6.out
      · rw [Hz.out, e1]; exact Hn6.out
end Go.Proofs.YtecolkpnllikaaaDoor
