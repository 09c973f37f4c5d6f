/- The walk of TxForges: no signature passes for another transaction. Condition: what is handed in can be read. -/
import Derived.Test.YtebepgoaofhelaaTxSi
namespace Go.Proofs.Ytebepgoaofhelaa
open Go.RowKit Go.Lib


set_option maxRecDepth 100000 in
set_option maxHeartbeats 8000000 in
theorem forges_any (t o : TxV) (w : World) (h : t.In w w.heap.size) (ho : o.In w w.heap.size) :
    Calls Try.prog 8 #[.agg #[.int .u8 (t.d.x0 : Int), .int .u8 (t.d.x1 : Int), .int .u8 (t.d.x2 : Int), .int .u8 (t.d.x3 : Int), .int .u8 (t.d.x4 : Int), .int .u8 (t.d.x5 : Int), .int .u8 (t.d.x6 : Int), .int .u8 (t.d.x7 : Int), .int .i64 t.no, .int .i64 t.fe, .int .i64 t.ki, .slice t.A t.n t.c, .slice t.A' t.n' t.c'], .agg #[.int .u8 (o.d.x0 : Int), .int .u8 (o.d.x1 : Int), .int .u8 (o.d.x2 : Int), .int .u8 (o.d.x3 : Int), .int .u8 (o.d.x4 : Int), .int .u8 (o.d.x5 : Int), .int .u8 (o.d.x6 : Int), .int .u8 (o.d.x7 : Int), .int .i64 o.no, .int .i64 o.fe, .int .i64 o.ki, .slice o.A o.n o.c, .slice o.A' o.n' o.c']] w fun e w' => e = .returned (.bool true) ∧ Below w.heap.size w w' := by
  have Hw0 := Lib.hid (below_two w (.cells #[.int .u8 (t.d.x0 : Int), .int .u8 (t.d.x1 : Int), .int .u8 (t.d.x2 : Int), .int .u8 (t.d.x3 : Int), .int .u8 (t.d.x4 : Int), .int .u8 (t.d.x5 : Int), .int .u8 (t.d.x6 : Int), .int .u8 (t.d.x7 : Int), .int .i64 t.no, .int .i64 t.fe, .int .i64 t.ki, .slice t.A t.n t.c, .slice t.A' t.n' t.c'] 26) (.cells #[.int .u8 (o.d.x0 : Int), .int .u8 (o.d.x1 : Int), .int .u8 (o.d.x2 : Int), .int .u8 (o.d.x3 : Int), .int .u8 (o.d.x4 : Int), .int .u8 (o.d.x5 : Int), .int .u8 (o.d.x6 : Int), .int .u8 (o.d.x7 : Int), .int .i64 o.no, .int .i64 o.fe, .int .i64 o.ki, .slice o.A o.n o.c, .slice o.A' o.n' o.c'] 26))
  have H := Lib.hid (h.keep Hw0.out (Nat.le_refl _))
  have Ho := Lib.hid (ho.keep Hw0.out (Nat.le_refl _))
  have HA0 := Lib.hid (show BoxT t 26 ((w.alloc (.cells #[.int .u8 (t.d.x0 : Int), .int .u8 (t.d.x1 : Int), .int .u8 (t.d.x2 : Int), .int .u8 (t.d.x3 : Int), .int .u8 (t.d.x4 : Int), .int .u8 (t.d.x5 : Int), .int .u8 (t.d.x6 : Int), .int .u8 (t.d.x7 : Int), .int .i64 t.no, .int .i64 t.fe, .int .i64 t.ki, .slice t.A t.n t.c, .slice t.A' t.n' t.c'] 26)).alloc (.cells #[.int .u8 (o.d.x0 : Int), .int .u8 (o.d.x1 : Int), .int .u8 (o.d.x2 : Int), .int .u8 (o.d.x3 : Int), .int .u8 (o.d.x4 : Int), .int .u8 (o.d.x5 : Int), .int .u8 (o.d.x6 : Int), .int .u8 (o.d.x7 : Int), .int .i64 o.no, .int .i64 o.fe, .int .i64 o.ki, .slice o.A o.n o.c, .slice o.A' o.n' o.c'] 26)) w.heap.size from block_alloc (heap_alloc_new w _) _)
  have HB0 : Hid (BoxT o 26 ((w.alloc (.cells #[.int .u8 (t.d.x0 : Int), .int .u8 (t.d.x1 : Int), .int .u8 (t.d.x2 : Int), .int .u8 (t.d.x3 : Int), .int .u8 (t.d.x4 : Int), .int .u8 (t.d.x5 : Int), .int .u8 (t.d.x6 : Int), .int .u8 (t.d.x7 : Int), .int .i64 t.no, .int .i64 t.fe, .int .i64 t.ki, .slice t.A t.n t.c, .slice t.A' t.n' t.c'] 26)).alloc (.cells #[.int .u8 (o.d.x0 : Int), .int .u8 (o.d.x1 : Int), .int .u8 (o.d.x2 : Int), .int .u8 (o.d.x3 : Int), .int .u8 (o.d.x4 : Int), .int .u8 (o.d.x5 : Int), .int .u8 (o.d.x6 : Int), .int .u8 (o.d.x7 : Int), .int .i64 o.no, .int .i64 o.fe, .int .i64 o.ki, .slice o.A o.n o.c, .slice o.A' o.n' o.c'] 26)) (w.heap.size + 1)) := by
    have := heap_alloc_new (w.alloc (.cells #[.int .u8 (t.d.x0 : Int), .int .u8 (t.d.x1 : Int), .int .u8 (t.d.x2 : Int), .int .u8 (t.d.x3 : Int), .int .u8 (t.d.x4 : Int), .int .u8 (t.d.x5 : Int), .int .u8 (t.d.x6 : Int), .int .u8 (t.d.x7 : Int), .int .i64 t.no, .int .i64 t.fe, .int .i64 t.ki, .slice t.A t.n t.c, .slice t.A' t.n' t.c'] 26)) (.cells #[.int .u8 (o.d.x0 : Int), .int .u8 (o.d.x1 : Int), .int .u8 (o.d.x2 : Int), .int .u8 (o.d.x3 : Int), .int .u8 (o.d.x4 : Int), .int .u8 (o.d.x5 : Int), .int .u8 (o.d.x6 : Int), .int .u8 (o.d.x7 : Int), .int .i64 o.no, .int .i64 o.fe, .int .i64 o.ki, .slice o.A o.n o.c, .slice o.A' o.n' o.c'] 26)
    rw [World.size_alloc] at this; exact this
  have hz0 : Hid (((w.alloc (.cells #[.int .u8 (t.d.x0 : Int), .int .u8 (t.d.x1 : Int), .int .u8 (t.d.x2 : Int), .int .u8 (t.d.x3 : Int), .int .u8 (t.d.x4 : Int), .int .u8 (t.d.x5 : Int), .int .u8 (t.d.x6 : Int), .int .u8 (t.d.x7 : Int), .int .i64 t.no, .int .i64 t.fe, .int .i64 t.ki, .slice t.A t.n t.c, .slice t.A' t.n' t.c'] 26)).alloc (.cells #[.int .u8 (o.d.x0 : Int), .int .u8 (o.d.x1 : Int), .int .u8 (o.d.x2 : Int), .int .u8 (o.d.x3 : Int), .int .u8 (o.d.x4 : Int), .int .u8 (o.d.x5 : Int), .int .u8 (o.d.x6 : Int), .int .u8 (o.d.x7 : Int), .int .i64 o.no, .int .i64 o.fe, .int .i64 o.ki, .slice o.A o.n o.c, .slice o.A' o.n' o.c'] 26)).heap.size = w.heap.size + 2) := by show _ = _; simp
  clear h ho
  go_enter Try.func8, Try.ntmps8
  go_upto_region 1 with fail
  go_cut [] (fun wx => ∃ t' o' : TxV, t'.AtB wx w.heap.size ∧ o'.AtB wx w.heap.size ∧ BoxT t' 26 wx w.heap.size ∧ BoxT o' 26 wx (w.heap.size + 1) ∧ Below w.heap.size w wx ∧ w.heap.size + 2 ≤ wx.heap.size)
  case first =>
    generalize (w.alloc (.cells #[.int .u8 (t.d.x0 : Int), .int .u8 (t.d.x1 : Int), .int .u8 (t.d.x2 : Int), .int .u8 (t.d.x3 : Int), .int .u8 (t.d.x4 : Int), .int .u8 (t.d.x5 : Int), .int .u8 (t.d.x6 : Int), .int .u8 (t.d.x7 : Int), .int .i64 t.no, .int .i64 t.fe, .int .i64 t.ki, .slice t.A t.n t.c, .slice t.A' t.n' t.c'] 26)).alloc (.cells #[.int .u8 (o.d.x0 : Int), .int .u8 (o.d.x1 : Int), .int .u8 (o.d.x2 : Int), .int .u8 (o.d.x3 : Int), .int .u8 (o.d.x4 : Int), .int .u8 (o.d.x5 : Int), .int .u8 (o.d.x6 : Int), .int .u8 (o.d.x7 : Int), .int .i64 o.no, .int .i64 o.fe, .int .i64 o.ki, .slice o.A o.n o.c, .slice o.A' o.n' o.c'] 26) = w0 at *
    have HA1 := Lib.hid HA0.out.drew; have HB1 := Lib.hid HB0.out.drew
    have Hd := Lib.hid (H.out.keep (show Below w0.heap.size w0 w0.drew from (Below.refl _ _).drew) (by rw [hz0.out]; omega))
    have Hod := Lib.hid (Ho.out.keep (show Below w0.heap.size w0 w0.drew from (Below.refl _ _).drew) (by rw [hz0.out]; omega))
    obtain ⟨y0, y1, y2, y3, y4, y5, y6, y7, y8, y9, y10, y11, y12⟩ := HA1.out.all
    obtain ⟨z0, z1, z2, z3, z4, z5, z6, z7, z8, z9, z10, z11, z12⟩ := HB1.out.all
    go_region_law (first
      | (have _g := HA2; clear _g; go_simp; go_at_call 10; refine (cut_any o _ w.heap.size (by have := hz2.out; omega) Ho2.out).mono ?_; rintro e w3 ⟨o', rfl, hcut, hat, hb3⟩; clear y0 y1 y2 y3 y4 y5 y6 y7 y8 y9 y10 y11 y12 z0 z1 z2 z3 z4 z5 z6 z7 z8 z9 z10 z11 z12; have HA3 := Lib.hid (HA2.out.below hb3); have HB3 := Lib.hid (HB2.out.below hb3); have hz3 := Lib.hid (Nat.le_trans hz2.out hb3.size); have Hat3 := Lib.hid (Hat2.out.keep hb3 (by have := hz2.out; omega)); have Hot3 := Lib.hid hat; have Hw3 := Lib.hid (Hw2.out.trans (hb3.mono Hw2.out.size)); clear hat hcut hb3; obtain ⟨y0, y1, y2, y3, y4, y5, y6, y7, y8, y9, y10, y11, y12⟩ := HA3.out.all; obtain ⟨z0, z1, z2, z3, z4, z5, z6, z7, z8, z9, z10, z11, z12⟩ := HB3.out.all; have yf := block_free HA3.out; have zf := block_free HB3.out)
      | (go_simp; go_at_call 10; refine (cut_any t _ w.heap.size (by rw [World.size_drew, hz0.out]; omega) Hd.out).mono ?_; rintro e w2 ⟨t', rfl, hcut, hat, hb2⟩; clear y0 y1 y2 y3 y4 y5 y6 y7 y8 y9 y10 y11 y12 z0 z1 z2 z3 z4 z5 z6 z7 z8 z9 z10 z11 z12; have HA2 := Lib.hid (HA1.out.below hb2); have HB2 := Lib.hid (HB1.out.below hb2); have hz2 := Lib.hid (show w.heap.size + 2 ≤ w2.heap.size by have := hb2.size; rw [World.size_drew, hz0.out] at this; exact this); have Hat2 := Lib.hid hat; have Hw2 := Lib.hid (Hw0.out.drew.trans (hb2.mono Hw0.out.size)); have Ho2 := Lib.hid (Hod.out.keep hb2 (by rw [World.size_drew, hz0.out]; omega)); clear hat hcut hb2; obtain ⟨y0, y1, y2, y3, y4, y5, y6, y7, y8, y9, y10, y11, y12⟩ := HA2.out.all; obtain ⟨z0, z1, z2, z3, z4, z5, z6, z7, z8, z9, z10, z11, z12⟩ := HB2.out.all))
    all_goals
      obtain ⟨s1, s2⟩ := set13 (t' := t') HA3.out
      obtain ⟨s3, s4⟩ := set13 (t' := o') (show Box o _ (w.heap.size + 1) from (s2.block (w.heap.size + 1) (by have := hz3.out; omega) (by simp)).trans HB3.out)
      have S1 := Lib.hid s1; have S2 := Lib.hid s2; have S3 := Lib.hid s3; have S4 := Lib.hid s4
      clear s1 s2 s3 s4
      go_wp2_with fail
      generalize hw4 : (((((((((((((w3.setCell ⟨w.heap.size, 0, none⟩ (.int .u8 (t'.d.x0 : Int))).setCell ⟨w.heap.size, 1, none⟩ (.int .u8 (t'.d.x1 : Int))).setCell ⟨w.heap.size, 2, none⟩ (.int .u8 (t'.d.x2 : Int))).setCell ⟨w.heap.size, 3, none⟩ (.int .u8 (t'.d.x3 : Int))).setCell ⟨w.heap.size, 4, none⟩ (.int .u8 (t'.d.x4 : Int))).setCell ⟨w.heap.size, 5, none⟩ (.int .u8 (t'.d.x5 : Int))).setCell ⟨w.heap.size, 6, none⟩ (.int .u8 (t'.d.x6 : Int))).setCell ⟨w.heap.size, 7, none⟩ (.int .u8 (t'.d.x7 : Int))).setCell ⟨w.heap.size, 8, none⟩ (.int .i64 t'.no)).setCell ⟨w.heap.size, 9, none⟩ (.int .i64 t'.fe)).setCell ⟨w.heap.size, 10, none⟩ (.int .i64 t'.ki)).setCell ⟨w.heap.size, 11, none⟩ (.slice t'.A t'.n t'.c)).setCell ⟨w.heap.size, 12, none⟩ (.slice t'.A' t'.n' t'.c')) = w4 at *
      clear hw4
      generalize hw5 : (((((((((((((w4.setCell ⟨(w.heap.size + 1), 0, none⟩ (.int .u8 (o'.d.x0 : Int))).setCell ⟨(w.heap.size + 1), 1, none⟩ (.int .u8 (o'.d.x1 : Int))).setCell ⟨(w.heap.size + 1), 2, none⟩ (.int .u8 (o'.d.x2 : Int))).setCell ⟨(w.heap.size + 1), 3, none⟩ (.int .u8 (o'.d.x3 : Int))).setCell ⟨(w.heap.size + 1), 4, none⟩ (.int .u8 (o'.d.x4 : Int))).setCell ⟨(w.heap.size + 1), 5, none⟩ (.int .u8 (o'.d.x5 : Int))).setCell ⟨(w.heap.size + 1), 6, none⟩ (.int .u8 (o'.d.x6 : Int))).setCell ⟨(w.heap.size + 1), 7, none⟩ (.int .u8 (o'.d.x7 : Int))).setCell ⟨(w.heap.size + 1), 8, none⟩ (.int .i64 o'.no)).setCell ⟨(w.heap.size + 1), 9, none⟩ (.int .i64 o'.fe)).setCell ⟨(w.heap.size + 1), 10, none⟩ (.int .i64 o'.ki)).setCell ⟨(w.heap.size + 1), 11, none⟩ (.slice o'.A o'.n o'.c)).setCell ⟨(w.heap.size + 1), 12, none⟩ (.slice o'.A' o'.n' o'.c')) = w5 at *
      clear hw5
      go_meet
      have hw4 := below_gr Hw3.out S2.out (Nat.le_refl _)
      have hw5 := below_gr hw4 S4.out (by omega)
      refine ⟨t', o', (Hat3.out.grown S2.out Hw3.out.size (Nat.le_refl _)).grown S4.out hw4.size (by omega), (Hot3.out.grown S2.out Hw3.out.size (Nat.le_refl _)).grown S4.out hw4.size (by omega), (S4.out.block w.heap.size (by have := S2.out.size; have := hz3.out; omega) (by simp)).trans S1.out, S3.out, hw5, ?_⟩
      have := S2.out.size; have := S4.out.size; have := hz3.out
      omega
  case rest =>
    obtain ⟨t', o', hat, hot, ha, hb, hw, hz⟩ := hcut
    obtain ⟨w2, rfl⟩ : ∃ w2 : World, w2 = wc := ⟨_, rfl⟩
    have HT2 := Lib.hid ha; have HO2 := Lib.hid hb; have Hw2 := Lib.hid hw
    have Hat2 := Lib.hid hat; have Hot2 := Lib.hid hot
    clear hat hot ha hb hw hz H Ho HA0 HB0 Hw0 hz0
    go_wp2_with fail
    refine (newBook_any w2).mono ?_
    rintro e w3 ⟨rfl, hB, hb⟩
    have HBk3 := Lib.hid hB; have HT3 := Lib.hid (HT2.out.below hb); have HO3 := Lib.hid (HO2.out.below hb); have Hat3 := Lib.hid (Hat2.out.keep (hb.mono Hw2.out.size) (Nat.le_refl _)); have Hot3 := Lib.hid (Hot2.out.keep (hb.mono Hw2.out.size) (Nat.le_refl _)); have Hw3 := Lib.hid (Hw2.out.trans (hb.mono Hw2.out.size))
    have hz2 : w.heap.size ≤ w2.heap.size := Hw2.out.size
    clear hB hb HT2 HO2 Hat2 Hot2 Hw2
    go_upto_region 5 with fail
    go_cut [6, 7] (fun s6 s7 wx => ∃ (b6 : Nat) (s : TxV) (err : Int) (L' : List En), s6 = .pointer (some ⟨b6, 0, none⟩) ∧ s7 = .int .i64 err ∧ Hid (SgOut t' t'.d [] s err L') ∧ Hid (s.At wx) ∧ Hid (s.Owns wx) ∧ Hid (Box s wx b6) ∧ Hid (BookAt wx (w2.heap.size + 2) (w2.heap.size + 1) w2.heap.size L') ∧ Hid (Box t' wx w.heap.size) ∧ Hid (Box o' wx (w.heap.size + 1)) ∧ Hid (Below w.heap.size w wx) ∧ Hid (t'.AtB wx w.heap.size) ∧ Hid (o'.AtB wx w.heap.size) ∧ w.heap.size + 1 < b6)
    case first =>
      have hS3 : w3.heap[w.heap.size]? = some (.cells #[.int .u8 (t'.d.x0 : Int), .int .u8 (t'.d.x1 : Int), .int .u8 (t'.d.x2 : Int), .int .u8 (t'.d.x3 : Int), .int .u8 (t'.d.x4 : Int), .int .u8 (t'.d.x5 : Int), .int .u8 (t'.d.x6 : Int), .int .u8 (t'.d.x7 : Int), .int .i64 t'.no, .int .i64 t'.fe, .int .i64 t'.ki, .slice t'.A t'.n t'.c, .slice t'.A' t'.n' t'.c'] 26 (0, 0)) := HT3.out
      refine wp_region_held_drew (S := fun w' => w'.heap[w.heap.size]? = some (.cells #[.int .u8 (t'.d.x0 : Int), .int .u8 (t'.d.x1 : Int), .int .u8 (t'.d.x2 : Int), .int .u8 (t'.d.x3 : Int), .int .u8 (t'.d.x4 : Int), .int .u8 (t'.d.x5 : Int), .int .u8 (t'.d.x6 : Int), .int .u8 (t'.d.x7 : Int), .int .i64 t'.no, .int .i64 t'.fe, .int .i64 t'.ki, .slice t'.A t'.n t'.c, .slice t'.A' t'.n' t'.c'] 26 (0, 0))) (by kernel_rfl) hS3 (fun hHeld => ?_)
      refine takeH 0 (some 20) (v := ?_) rfl (by kernel_rfl) (by kernel_rfl) (by kernel_rfl) (by kernel_rfl) (fun _ _ _ h => h) (Or.inl ⟨by kernel_rfl, ?hy⟩) (by assumption) ?_
      case hy =>
        intro w' hSw
        try dsimp only at hSw
        have x := block_cell hSw
        have x0 := x 0; have x1 := x 1; have x2 := x 2; have x3 := x 3; have x4 := x 4; have x5 := x 5; have x6 := x 6; have x7 := x 7; have x8 := x 8; have x9 := x 9; have x10 := x 10; have x11 := x 11; have x12 := x 12
        simp at x0 x1 x2 x3 x4 x5 x6 x7 x8 x9 x10 x11 x12
        clear x hSw
        first
          | (go_simp; done)
          | (go_simp; with_reducible rfl)
      simp only [Act.put, List.setIfInBounds_toArray, List.set_cons_zero, List.set_cons_succ]
      refine takeH 1 (some 21) (v := ?_) rfl (by kernel_rfl) (by kernel_rfl) (by kernel_rfl) (by kernel_rfl) (fun _ _ _ h => h) (Or.inl ⟨by kernel_rfl, ?hy⟩) (by assumption) ?_
      case hy =>
        intro w' hSw
        try dsimp only at hSw
        first
          | (go_simp; done)
          | (go_simp; with_reducible rfl)
      simp only [Act.put, List.setIfInBounds_toArray, List.set_cons_zero, List.set_cons_succ]
      refine takeH 2 (some 22) (v := ?_) rfl (by kernel_rfl) (by kernel_rfl) (by kernel_rfl) (by kernel_rfl) (fun _ _ _ h => h) (Or.inl ⟨by kernel_rfl, ?hy⟩) (by assumption) ?_
      case hy =>
        intro w' hSw
        try dsimp only at hSw
        first
          | (go_simp; done)
          | (go_simp; with_reducible rfl)
      simp only [Act.put, List.setIfInBounds_toArray, List.set_cons_zero, List.set_cons_succ]
      refine takeH 3 (some 23) (v := ?_) rfl (by kernel_rfl) (by kernel_rfl) (by kernel_rfl) (by kernel_rfl) (fun _ _ _ h => h) (Or.inl ⟨by kernel_rfl, ?hy⟩) (by assumption) ?_
      case hy =>
        intro w' hSw
        try dsimp only at hSw
        have x := block_cell hSw
        have x0 := x 0; have x1 := x 1; have x2 := x 2; have x3 := x 3; have x4 := x 4; have x5 := x 5; have x6 := x 6; have x7 := x 7; have x8 := x 8; have x9 := x 9; have x10 := x 10; have x11 := x 11; have x12 := x 12
        simp at x0 x1 x2 x3 x4 x5 x6 x7 x8 x9 x10 x11 x12
        clear x hSw
        first
          | (go_simp; done)
          | (go_simp; with_reducible rfl)
      simp only [Act.put, List.setIfInBounds_toArray, List.set_cons_zero, List.set_cons_succ]
      clear hS3
      have hq := (Below.refl w3.heap.size w3).drew
      have Hk := Lib.hid Hat3.out.ok
      have HBk0 := Lib.hid (HBk3.out.below hq); have HT0 := Lib.hid (HT3.out.below hq); have HO0 := Lib.hid (HO3.out.below hq); have Hw0 := Lib.hid (Hw3.out.trans (hq.mono Hw3.out.size)); have Hat0 := Lib.hid (Hat3.out.keep (hq.mono Hw3.out.size) (Nat.le_refl _)); have Hot0 := Lib.hid (Hot3.out.keep (hq.mono Hw3.out.size) (Nat.le_refl _))
      clear hq HBk3 HT3 HO3 Hw3 Hat3 Hot3
      generalize w3.drew = u0 at *
      refine wpAnyH_ready (rs := [4, 9]) (by kernel_rfl) (by simp) ?_
      refine AllReadyH.cons rfl (fun K hK => ?_) (AllReadyH.cons rfl (fun K hK => ?_) AllReadyH.nil)
      ·
        rw [if_pos (by kernel_rfl)]
        go_simp
        refine (signer_any t'.d _ u0).mono ?_
        rintro e u1 ⟨rfl, hb⟩
        have HBk1 := Lib.hid (HBk0.out.below hb); have HT1 := Lib.hid (HT0.out.below hb); have HO1 := Lib.hid (HO0.out.below hb); have Hw1 := Lib.hid (Hw0.out.trans (hb.mono Hw0.out.size)); have Hat1 := Lib.hid (Hat0.out.keep (hb.mono Hw0.out.size) (Nat.le_refl _)); have Hot1 := Lib.hid (Hot0.out.keep (hb.mono Hw0.out.size) (Nat.le_refl _))
        try have HZ1 := Lib.hid (HZ0.out.below hb)
        refine hK.out _ _ HT1.out (fun _ => ?_)
        clear hK K hb
        refine wpAnyH_ready (rs := [5, 9]) (by kernel_rfl) (by simp) ?_
        refine AllReadyH.cons rfl (fun K hK => ?_) (AllReadyH.cons rfl (fun K hK => ?_) AllReadyH.nil)
        ·
          rw [if_pos (by kernel_rfl)]
          go_simp
          refine (txsign_any t' t'.d _ _ _ [] u1 (Hat1.out.at Hw1.out.size) HBk1.out Hk.out (by decide)).mono ?_
          intro e u2 hg
          obtain ⟨s, err, L', rfl, hso, hoa, hoo, hbk, hkp⟩ := hg.form HBk1.out
          have hbw := hkp.below (B := w.heap.size) (by omega) (by omega)
          have HT2 := Lib.hid (hkp.boxT HBk1.out HT1.out); have HO2 := Lib.hid (hkp.boxT HBk1.out HO1.out); have HBk2 := Lib.hid hbk; have HW2 := Lib.hid hoo; have HA := Lib.hid hoa; have HSo := Lib.hid hso
          have Hw2 := Lib.hid (Hw1.out.trans hbw); have Hat2 := Lib.hid (Hat1.out.keep hbw (Nat.le_refl _)); have Hot2 := Lib.hid (Hot1.out.keep hbw (Nat.le_refl _))
          try have HZ2 := Lib.hid (hkp.boxT HBk1.out HZ1.out)
          refine hK.out _ _ HT2.out (fun _ => ?_)
          clear hK K hg hso hoa hoo hbk hkp hbw
          refine takeH 6 (some 19) (v := ?_) rfl (by kernel_rfl) (by kernel_rfl) (by kernel_rfl) (by kernel_rfl) (fun _ _ _ h => h) (Or.inl ⟨by kernel_rfl, ?hy⟩) (by assumption) ?_
          case hy =>
            intro w' hSw
            try dsimp only at hSw
            first
              | (go_simp; done)
              | (go_simp; with_reducible rfl)
          simp only [Act.put, List.setIfInBounds_toArray, List.set_cons_zero, List.set_cons_succ]
          refine takeH 7 (some 26) (v := ?_) rfl (by kernel_rfl) (by kernel_rfl) (by kernel_rfl) (by kernel_rfl) (fun _ _ _ h => h) (Or.inl ⟨by kernel_rfl, ?hy⟩) (by assumption) ?_
          case hy =>
            intro w' hSw
            try dsimp only at hSw
            first
              | (go_simp; done)
              | (go_simp; with_reducible rfl)
          simp only [Act.put, List.setIfInBounds_toArray, List.set_cons_zero, List.set_cons_succ]
          refine takeH 8 (some 27) (v := ?_) rfl (by kernel_rfl) (by kernel_rfl) (by kernel_rfl) (by kernel_rfl) (fun _ _ _ h => h) (Or.inl ⟨by kernel_rfl, ?hy⟩) (by assumption) ?_
          case hy =>
            intro w' hSw
            try dsimp only at hSw
            first
              | (go_simp; done)
              | (go_simp; with_reducible rfl)
          simp only [Act.put, List.setIfInBounds_toArray, List.set_cons_zero, List.set_cons_succ]
          refine wpAnyH_ready (rs := [9]) (by kernel_rfl) (by simp) ?_
          refine AllReadyH.cons rfl (fun K hK => ?_) AllReadyH.nil
          rw [if_pos (by kernel_rfl)]
          go_simp
          have hb := h_one u2 (.cells #[.int .u8 0, .int .u8 0, .int .u8 0, .int .u8 0, .int .u8 0, .int .u8 0, .int .u8 0, .int .u8 0, .int .i64 0, .int .i64 0, .int .i64 0, .slice none 0 0, .slice none 0 0] 26)
          have HZ3 : Hid (Box txZ (u2.alloc (.cells #[.int .u8 0, .int .u8 0, .int .u8 0, .int .u8 0, .int .u8 0, .int .u8 0, .int .u8 0, .int .u8 0, .int .i64 0, .int .i64 0, .int .i64 0, .slice none 0 0, .slice none 0 0] 26)) u2.heap.size) := heap_alloc_new u2 (.cells #[.int .u8 0, .int .u8 0, .int .u8 0, .int .u8 0, .int .u8 0, .int .u8 0, .int .u8 0, .int .u8 0, .int .i64 0, .int .i64 0, .int .i64 0, .slice none 0 0, .slice none 0 0] 26)
          have HBk3 := Lib.hid (HBk2.out.below hb); have HT3 := Lib.hid (HT2.out.below hb); have HO3 := Lib.hid (HO2.out.below hb); have Hw3 := Lib.hid (Hw2.out.trans (hb.mono Hw2.out.size)); have Hat3 := Lib.hid (Hat2.out.keep (hb.mono Hw2.out.size) (Nat.le_refl _)); have Hot3 := Lib.hid (Hot2.out.keep (hb.mono Hw2.out.size) (Nat.le_refl _))
          try have HW3 := Lib.hid (HW2.out.below hb)
          have hbz : w.heap.size ≤ u2.heap.size := Hw2.out.size
          have hbz1 := block_lt HO2.out
          refine hK.out _ _ HT3.out (fun _ => ?_)
          clear hK K hb
          generalize u2.alloc (.cells #[.int .u8 0, .int .u8 0, .int .u8 0, .int .u8 0, .int .u8 0, .int .u8 0, .int .u8 0, .int .u8 0, .int .i64 0, .int .i64 0, .int .i64 0, .slice none 0 0, .slice none 0 0] 26) = u3 at *
          generalize u2.heap.size = bz at *
          refine wpAnyH_ready (rs := [10]) (by kernel_rfl) (by simp) ?_
          refine AllReadyH.cons rfl (fun K hK => ?_) AllReadyH.nil
          obtain ⟨z0, z1, z2, z3, z4, z5, z6, z7, z8, z9, z10, z11, z12⟩ := HZ3.out.all
          have zf := block_free HZ3.out
          rw [if_pos (by kernel_rfl)]
          go_simp
          obtain ⟨s1, hg⟩ := set13 (t' := s) HZ3.out
          have hbw := ((Below.refl u3.heap.size u3).mono Hw3.out.size).grown hg Hw3.out.size (fun q hq => by injection hq with hq; omega)
          have HX4 := Lib.hid s1; have HBk4 := Lib.hid (HBk3.out.box HZ3.out hg); have HW4 := Lib.hid (HW3.out.box HZ3.out hg)
          have HT4 : Hid (Box t' ((((((((((((((u3.setCell ⟨bz, 0, none⟩ (.int .u8 (s.d.x0 : Int))).setCell ⟨bz, 1, none⟩ (.int .u8 (s.d.x1 : Int))).setCell ⟨bz, 2, none⟩ (.int .u8 (s.d.x2 : Int))).setCell ⟨bz, 3, none⟩ (.int .u8 (s.d.x3 : Int))).setCell ⟨bz, 4, none⟩ (.int .u8 (s.d.x4 : Int))).setCell ⟨bz, 5, none⟩ (.int .u8 (s.d.x5 : Int))).setCell ⟨bz, 6, none⟩ (.int .u8 (s.d.x6 : Int))).setCell ⟨bz, 7, none⟩ (.int .u8 (s.d.x7 : Int))).setCell ⟨bz, 8, none⟩ (.int .i64 s.no)).setCell ⟨bz, 9, none⟩ (.int .i64 s.fe)).setCell ⟨bz, 10, none⟩ (.int .i64 s.ki)).setCell ⟨bz, 11, none⟩ (.slice s.A s.n s.c)).setCell ⟨bz, 12, none⟩ (.slice s.A' s.n' s.c'))) w.heap.size) := (hg.block _ (block_lt HT3.out) (by intro e; injection e with e; omega)).trans HT3.out
          have HO4 : Hid (Box o' ((((((((((((((u3.setCell ⟨bz, 0, none⟩ (.int .u8 (s.d.x0 : Int))).setCell ⟨bz, 1, none⟩ (.int .u8 (s.d.x1 : Int))).setCell ⟨bz, 2, none⟩ (.int .u8 (s.d.x2 : Int))).setCell ⟨bz, 3, none⟩ (.int .u8 (s.d.x3 : Int))).setCell ⟨bz, 4, none⟩ (.int .u8 (s.d.x4 : Int))).setCell ⟨bz, 5, none⟩ (.int .u8 (s.d.x5 : Int))).setCell ⟨bz, 6, none⟩ (.int .u8 (s.d.x6 : Int))).setCell ⟨bz, 7, none⟩ (.int .u8 (s.d.x7 : Int))).setCell ⟨bz, 8, none⟩ (.int .i64 s.no)).setCell ⟨bz, 9, none⟩ (.int .i64 s.fe)).setCell ⟨bz, 10, none⟩ (.int .i64 s.ki)).setCell ⟨bz, 11, none⟩ (.slice s.A s.n s.c)).setCell ⟨bz, 12, none⟩ (.slice s.A' s.n' s.c'))) (w.heap.size + 1)) := (hg.block _ (block_lt HO3.out) (by intro e; injection e with e; omega)).trans HO3.out
          have Hw4 := Lib.hid (Hw3.out.trans hbw); have Hat4 := Lib.hid (Hat3.out.keep hbw (Nat.le_refl _)); have Hot4 := Lib.hid (Hot3.out.keep hbw (Nat.le_refl _))
          refine hK.out _ _ HT4.out (fun _ => ?_)
          clear hK K z0 z1 z2 z3 z4 z5 z6 z7 z8 z9 z10 z11 z12 zf s1 hg hbw
          generalize (((((((((((((u3.setCell ⟨bz, 0, none⟩ (.int .u8 (s.d.x0 : Int))).setCell ⟨bz, 1, none⟩ (.int .u8 (s.d.x1 : Int))).setCell ⟨bz, 2, none⟩ (.int .u8 (s.d.x2 : Int))).setCell ⟨bz, 3, none⟩ (.int .u8 (s.d.x3 : Int))).setCell ⟨bz, 4, none⟩ (.int .u8 (s.d.x4 : Int))).setCell ⟨bz, 5, none⟩ (.int .u8 (s.d.x5 : Int))).setCell ⟨bz, 6, none⟩ (.int .u8 (s.d.x6 : Int))).setCell ⟨bz, 7, none⟩ (.int .u8 (s.d.x7 : Int))).setCell ⟨bz, 8, none⟩ (.int .i64 s.no)).setCell ⟨bz, 9, none⟩ (.int .i64 s.fe)).setCell ⟨bz, 10, none⟩ (.int .i64 s.ki)).setCell ⟨bz, 11, none⟩ (.slice s.A s.n s.c)).setCell ⟨bz, 12, none⟩ (.slice s.A' s.n' s.c')) = u4 at *
          refine takeH 11 (some 7) (v := ?_) rfl (by kernel_rfl) (by kernel_rfl) (by kernel_rfl) (by kernel_rfl) (fun _ _ _ h => h) (Or.inl ⟨by kernel_rfl, ?hy⟩) (by assumption) ?_
          case hy =>
            intro w' hSw
            try dsimp only at hSw
            first
              | (go_simp; done)
              | (go_simp; with_reducible rfl)
          simp only [Act.put, List.setIfInBounds_toArray, List.set_cons_zero, List.set_cons_succ]
          refine wpAnyH_done (by kernel_rfl) ?_ _
          go_wp2_with fail
          go_meet
          exact ⟨bz, s, err, L', rfl, rfl, HSo, Lib.hid (HA.out.owned HW4.out), HW4, HX4, HBk4, HT4, HO4, Hw4, Hat4, Hot4, by omega⟩
        ·
          rw [if_pos (by kernel_rfl)]
          go_simp
          have hb := h_one u1 (.cells #[.int .u8 0, .int .u8 0, .int .u8 0, .int .u8 0, .int .u8 0, .int .u8 0, .int .u8 0, .int .u8 0, .int .i64 0, .int .i64 0, .int .i64 0, .slice none 0 0, .slice none 0 0] 26)
          have HZ2 : Hid (Box txZ (u1.alloc (.cells #[.int .u8 0, .int .u8 0, .int .u8 0, .int .u8 0, .int .u8 0, .int .u8 0, .int .u8 0, .int .u8 0, .int .i64 0, .int .i64 0, .int .i64 0, .slice none 0 0, .slice none 0 0] 26)) u1.heap.size) := heap_alloc_new u1 (.cells #[.int .u8 0, .int .u8 0, .int .u8 0, .int .u8 0, .int .u8 0, .int .u8 0, .int .u8 0, .int .u8 0, .int .i64 0, .int .i64 0, .int .i64 0, .slice none 0 0, .slice none 0 0] 26)
          have HBk2 := Lib.hid (HBk1.out.below hb); have HT2 := Lib.hid (HT1.out.below hb); have HO2 := Lib.hid (HO1.out.below hb); have Hw2 := Lib.hid (Hw1.out.trans (hb.mono Hw1.out.size)); have Hat2 := Lib.hid (Hat1.out.keep (hb.mono Hw1.out.size) (Nat.le_refl _)); have Hot2 := Lib.hid (Hot1.out.keep (hb.mono Hw1.out.size) (Nat.le_refl _))
          try have HW2 := Lib.hid (HW1.out.below hb)
          have hbz : w.heap.size ≤ u1.heap.size := Hw1.out.size
          have hbz1 := block_lt HO1.out
          refine hK.out _ _ HT2.out (fun _ => ?_)
          clear hK K hb
          generalize u1.alloc (.cells #[.int .u8 0, .int .u8 0, .int .u8 0, .int .u8 0, .int .u8 0, .int .u8 0, .int .u8 0, .int .u8 0, .int .i64 0, .int .i64 0, .int .i64 0, .slice none 0 0, .slice none 0 0] 26) = u2 at *
          generalize u1.heap.size = bz at *
          refine wpAnyH_ready (rs := [5]) (by kernel_rfl) (by simp) ?_
          refine AllReadyH.cons rfl (fun K hK => ?_) AllReadyH.nil
          rw [if_pos (by kernel_rfl)]
          go_simp
          refine (txsign_any t' t'.d _ _ _ [] u2 (Hat2.out.at Hw2.out.size) HBk2.out Hk.out (by decide)).mono ?_
          intro e u3 hg
          obtain ⟨s, err, L', rfl, hso, hoa, hoo, hbk, hkp⟩ := hg.form HBk2.out
          have hbw := hkp.below (B := w.heap.size) (by omega) (by omega)
          have HT3 := Lib.hid (hkp.boxT HBk2.out HT2.out); have HO3 := Lib.hid (hkp.boxT HBk2.out HO2.out); have HBk3 := Lib.hid hbk; have HW3 := Lib.hid hoo; have HA := Lib.hid hoa; have HSo := Lib.hid hso
          have Hw3 := Lib.hid (Hw2.out.trans hbw); have Hat3 := Lib.hid (Hat2.out.keep hbw (Nat.le_refl _)); have Hot3 := Lib.hid (Hot2.out.keep hbw (Nat.le_refl _))
          try have HZ3 := Lib.hid (hkp.boxT HBk2.out HZ2.out)
          refine hK.out _ _ HT3.out (fun _ => ?_)
          clear hK K hg hso hoa hoo hbk hkp hbw
          refine takeH 6 (some 19) (v := ?_) rfl (by kernel_rfl) (by kernel_rfl) (by kernel_rfl) (by kernel_rfl) (fun _ _ _ h => h) (Or.inl ⟨by kernel_rfl, ?hy⟩) (by assumption) ?_
          case hy =>
            intro w' hSw
            try dsimp only at hSw
            first
              | (go_simp; done)
              | (go_simp; with_reducible rfl)
          simp only [Act.put, List.setIfInBounds_toArray, List.set_cons_zero, List.set_cons_succ]
          refine takeH 7 (some 26) (v := ?_) rfl (by kernel_rfl) (by kernel_rfl) (by kernel_rfl) (by kernel_rfl) (fun _ _ _ h => h) (Or.inl ⟨by kernel_rfl, ?hy⟩) (by assumption) ?_
          case hy =>
            intro w' hSw
            try dsimp only at hSw
            first
              | (go_simp; done)
              | (go_simp; with_reducible rfl)
          simp only [Act.put, List.setIfInBounds_toArray, List.set_cons_zero, List.set_cons_succ]
          refine takeH 8 (some 27) (v := ?_) rfl (by kernel_rfl) (by kernel_rfl) (by kernel_rfl) (by kernel_rfl) (fun _ _ _ h => h) (Or.inl ⟨by kernel_rfl, ?hy⟩) (by assumption) ?_
          case hy =>
            intro w' hSw
            try dsimp only at hSw
            first
              | (go_simp; done)
              | (go_simp; with_reducible rfl)
          simp only [Act.put, List.setIfInBounds_toArray, List.set_cons_zero, List.set_cons_succ]
          refine wpAnyH_ready (rs := [10]) (by kernel_rfl) (by simp) ?_
          refine AllReadyH.cons rfl (fun K hK => ?_) AllReadyH.nil
          obtain ⟨z0, z1, z2, z3, z4, z5, z6, z7, z8, z9, z10, z11, z12⟩ := HZ3.out.all
          have zf := block_free HZ3.out
          rw [if_pos (by kernel_rfl)]
          go_simp
          obtain ⟨s1, hg⟩ := set13 (t' := s) HZ3.out
          have hbw := ((Below.refl u3.heap.size u3).mono Hw3.out.size).grown hg Hw3.out.size (fun q hq => by injection hq with hq; omega)
          have HX4 := Lib.hid s1; have HBk4 := Lib.hid (HBk3.out.box HZ3.out hg); have HW4 := Lib.hid (HW3.out.box HZ3.out hg)
          have HT4 : Hid (Box t' ((((((((((((((u3.setCell ⟨bz, 0, none⟩ (.int .u8 (s.d.x0 : Int))).setCell ⟨bz, 1, none⟩ (.int .u8 (s.d.x1 : Int))).setCell ⟨bz, 2, none⟩ (.int .u8 (s.d.x2 : Int))).setCell ⟨bz, 3, none⟩ (.int .u8 (s.d.x3 : Int))).setCell ⟨bz, 4, none⟩ (.int .u8 (s.d.x4 : Int))).setCell ⟨bz, 5, none⟩ (.int .u8 (s.d.x5 : Int))).setCell ⟨bz, 6, none⟩ (.int .u8 (s.d.x6 : Int))).setCell ⟨bz, 7, none⟩ (.int .u8 (s.d.x7 : Int))).setCell ⟨bz, 8, none⟩ (.int .i64 s.no)).setCell ⟨bz, 9, none⟩ (.int .i64 s.fe)).setCell ⟨bz, 10, none⟩ (.int .i64 s.ki)).setCell ⟨bz, 11, none⟩ (.slice s.A s.n s.c)).setCell ⟨bz, 12, none⟩ (.slice s.A' s.n' s.c'))) w.heap.size) := (hg.block _ (block_lt HT3.out) (by intro e; injection e with e; omega)).trans HT3.out
          have HO4 : Hid (Box o' ((((((((((((((u3.setCell ⟨bz, 0, none⟩ (.int .u8 (s.d.x0 : Int))).setCell ⟨bz, 1, none⟩ (.int .u8 (s.d.x1 : Int))).setCell ⟨bz, 2, none⟩ (.int .u8 (s.d.x2 : Int))).setCell ⟨bz, 3, none⟩ (.int .u8 (s.d.x3 : Int))).setCell ⟨bz, 4, none⟩ (.int .u8 (s.d.x4 : Int))).setCell ⟨bz, 5, none⟩ (.int .u8 (s.d.x5 : Int))).setCell ⟨bz, 6, none⟩ (.int .u8 (s.d.x6 : Int))).setCell ⟨bz, 7, none⟩ (.int .u8 (s.d.x7 : Int))).setCell ⟨bz, 8, none⟩ (.int .i64 s.no)).setCell ⟨bz, 9, none⟩ (.int .i64 s.fe)).setCell ⟨bz, 10, none⟩ (.int .i64 s.ki)).setCell ⟨bz, 11, none⟩ (.slice s.A s.n s.c)).setCell ⟨bz, 12, none⟩ (.slice s.A' s.n' s.c'))) (w.heap.size + 1)) := (hg.block _ (block_lt HO3.out) (by intro e; injection e with e; omega)).trans HO3.out
          have Hw4 := Lib.hid (Hw3.out.trans hbw); have Hat4 := Lib.hid (Hat3.out.keep hbw (Nat.le_refl _)); have Hot4 := Lib.hid (Hot3.out.keep hbw (Nat.le_refl _))
          refine hK.out _ _ HT4.out (fun _ => ?_)
          clear hK K z0 z1 z2 z3 z4 z5 z6 z7 z8 z9 z10 z11 z12 zf s1 hg hbw
          generalize (((((((((((((u3.setCell ⟨bz, 0, none⟩ (.int .u8 (s.d.x0 : Int))).setCell ⟨bz, 1, none⟩ (.int .u8 (s.d.x1 : Int))).setCell ⟨bz, 2, none⟩ (.int .u8 (s.d.x2 : Int))).setCell ⟨bz, 3, none⟩ (.int .u8 (s.d.x3 : Int))).setCell ⟨bz, 4, none⟩ (.int .u8 (s.d.x4 : Int))).setCell ⟨bz, 5, none⟩ (.int .u8 (s.d.x5 : Int))).setCell ⟨bz, 6, none⟩ (.int .u8 (s.d.x6 : Int))).setCell ⟨bz, 7, none⟩ (.int .u8 (s.d.x7 : Int))).setCell ⟨bz, 8, none⟩ (.int .i64 s.no)).setCell ⟨bz, 9, none⟩ (.int .i64 s.fe)).setCell ⟨bz, 10, none⟩ (.int .i64 s.ki)).setCell ⟨bz, 11, none⟩ (.slice s.A s.n s.c)).setCell ⟨bz, 12, none⟩ (.slice s.A' s.n' s.c')) = u4 at *
          refine takeH 11 (some 7) (v := ?_) rfl (by kernel_rfl) (by kernel_rfl) (by kernel_rfl) (by kernel_rfl) (fun _ _ _ h => h) (Or.inl ⟨by kernel_rfl, ?hy⟩) (by assumption) ?_
          case hy =>
            intro w' hSw
            try dsimp only at hSw
            first
              | (go_simp; done)
              | (go_simp; with_reducible rfl)
          simp only [Act.put, List.setIfInBounds_toArray, List.set_cons_zero, List.set_cons_succ]
          refine wpAnyH_done (by kernel_rfl) ?_ _
          go_wp2_with fail
          go_meet
          exact ⟨bz, s, err, L', rfl, rfl, HSo, Lib.hid (HA.out.owned HW4.out), HW4, HX4, HBk4, HT4, HO4, Hw4, Hat4, Hot4, by omega⟩
      ·
        rw [if_pos (by kernel_rfl)]
        go_simp
        have hb := h_one u0 (.cells #[.int .u8 0, .int .u8 0, .int .u8 0, .int .u8 0, .int .u8 0, .int .u8 0, .int .u8 0, .int .u8 0, .int .i64 0, .int .i64 0, .int .i64 0, .slice none 0 0, .slice none 0 0] 26)
        have HZ1 : Hid (Box txZ (u0.alloc (.cells #[.int .u8 0, .int .u8 0, .int .u8 0, .int .u8 0, .int .u8 0, .int .u8 0, .int .u8 0, .int .u8 0, .int .i64 0, .int .i64 0, .int .i64 0, .slice none 0 0, .slice none 0 0] 26)) u0.heap.size) := heap_alloc_new u0 (.cells #[.int .u8 0, .int .u8 0, .int .u8 0, .int .u8 0, .int .u8 0, .int .u8 0, .int .u8 0, .int .u8 0, .int .i64 0, .int .i64 0, .int .i64 0, .slice none 0 0, .slice none 0 0] 26)
        have HBk1 := Lib.hid (HBk0.out.below hb); have HT1 := Lib.hid (HT0.out.below hb); have HO1 := Lib.hid (HO0.out.below hb); have Hw1 := Lib.hid (Hw0.out.trans (hb.mono Hw0.out.size)); have Hat1 := Lib.hid (Hat0.out.keep (hb.mono Hw0.out.size) (Nat.le_refl _)); have Hot1 := Lib.hid (Hot0.out.keep (hb.mono Hw0.out.size) (Nat.le_refl _))
        try have HW1 := Lib.hid (HW0.out.below hb)
        have hbz : w.heap.size ≤ u0.heap.size := Hw0.out.size
        have hbz1 := block_lt HO0.out
        refine hK.out _ _ HT1.out (fun _ => ?_)
        clear hK K hb
        generalize u0.alloc (.cells #[.int .u8 0, .int .u8 0, .int .u8 0, .int .u8 0, .int .u8 0, .int .u8 0, .int .u8 0, .int .u8 0, .int .i64 0, .int .i64 0, .int .i64 0, .slice none 0 0, .slice none 0 0] 26) = u1 at *
        generalize u0.heap.size = bz at *
        refine wpAnyH_ready (rs := [4]) (by kernel_rfl) (by simp) ?_
        refine AllReadyH.cons rfl (fun K hK => ?_) AllReadyH.nil
        rw [if_pos (by kernel_rfl)]
        go_simp
        refine (signer_any t'.d _ u1).mono ?_
        rintro e u2 ⟨rfl, hb⟩
        have HBk2 := Lib.hid (HBk1.out.below hb); have HT2 := Lib.hid (HT1.out.below hb); have HO2 := Lib.hid (HO1.out.below hb); have Hw2 := Lib.hid (Hw1.out.trans (hb.mono Hw1.out.size)); have Hat2 := Lib.hid (Hat1.out.keep (hb.mono Hw1.out.size) (Nat.le_refl _)); have Hot2 := Lib.hid (Hot1.out.keep (hb.mono Hw1.out.size) (Nat.le_refl _))
        try have HZ2 := Lib.hid (HZ1.out.below hb)
        refine hK.out _ _ HT2.out (fun _ => ?_)
        clear hK K hb
        refine wpAnyH_ready (rs := [5]) (by kernel_rfl) (by simp) ?_
        refine AllReadyH.cons rfl (fun K hK => ?_) AllReadyH.nil
        rw [if_pos (by kernel_rfl)]
        go_simp
        refine (txsign_any t' t'.d _ _ _ [] u2 (Hat2.out.at Hw2.out.size) HBk2.out Hk.out (by decide)).mono ?_
        intro e u3 hg
        obtain ⟨s, err, L', rfl, hso, hoa, hoo, hbk, hkp⟩ := hg.form HBk2.out
        have hbw := hkp.below (B := w.heap.size) (by omega) (by omega)
        have HT3 := Lib.hid (hkp.boxT HBk2.out HT2.out); have HO3 := Lib.hid (hkp.boxT HBk2.out HO2.out); have HBk3 := Lib.hid hbk; have HW3 := Lib.hid hoo; have HA := Lib.hid hoa; have HSo := Lib.hid hso
        have Hw3 := Lib.hid (Hw2.out.trans hbw); have Hat3 := Lib.hid (Hat2.out.keep hbw (Nat.le_refl _)); have Hot3 := Lib.hid (Hot2.out.keep hbw (Nat.le_refl _))
        try have HZ3 := Lib.hid (hkp.boxT HBk2.out HZ2.out)
        refine hK.out _ _ HT3.out (fun _ => ?_)
        clear hK K hg hso hoa hoo hbk hkp hbw
        refine takeH 6 (some 19) (v := ?_) rfl (by kernel_rfl) (by kernel_rfl) (by kernel_rfl) (by kernel_rfl) (fun _ _ _ h => h) (Or.inl ⟨by kernel_rfl, ?hy⟩) (by assumption) ?_
        case hy =>
          intro w' hSw
          try dsimp only at hSw
          first
            | (go_simp; done)
            | (go_simp; with_reducible rfl)
        simp only [Act.put, List.setIfInBounds_toArray, List.set_cons_zero, List.set_cons_succ]
        refine takeH 7 (some 26) (v := ?_) rfl (by kernel_rfl) (by kernel_rfl) (by kernel_rfl) (by kernel_rfl) (fun _ _ _ h => h) (Or.inl ⟨by kernel_rfl, ?hy⟩) (by assumption) ?_
        case hy =>
          intro w' hSw
          try dsimp only at hSw
          first
            | (go_simp; done)
            | (go_simp; with_reducible rfl)
        simp only [Act.put, List.setIfInBounds_toArray, List.set_cons_zero, List.set_cons_succ]
        refine takeH 8 (some 27) (v := ?_) rfl (by kernel_rfl) (by kernel_rfl) (by kernel_rfl) (by kernel_rfl) (fun _ _ _ h => h) (Or.inl ⟨by kernel_rfl, ?hy⟩) (by assumption) ?_
        case hy =>
          intro w' hSw
          try dsimp only at hSw
          first
            | (go_simp; done)
            | (go_simp; with_reducible rfl)
        simp only [Act.put, List.setIfInBounds_toArray, List.set_cons_zero, List.set_cons_succ]
        refine wpAnyH_ready (rs := [10]) (by kernel_rfl) (by simp) ?_
        refine AllReadyH.cons rfl (fun K hK => ?_) AllReadyH.nil
        obtain ⟨z0, z1, z2, z3, z4, z5, z6, z7, z8, z9, z10, z11, z12⟩ := HZ3.out.all
        have zf := block_free HZ3.out
        rw [if_pos (by kernel_rfl)]
        go_simp
        obtain ⟨s1, hg⟩ := set13 (t' := s) HZ3.out
        have hbw := ((Below.refl u3.heap.size u3).mono Hw3.out.size).grown hg Hw3.out.size (fun q hq => by injection hq with hq; omega)
        have HX4 := Lib.hid s1; have HBk4 := Lib.hid (HBk3.out.box HZ3.out hg); have HW4 := Lib.hid (HW3.out.box HZ3.out hg)
        have HT4 : Hid (Box t' ((((((((((((((u3.setCell ⟨bz, 0, none⟩ (.int .u8 (s.d.x0 : Int))).setCell ⟨bz, 1, none⟩ (.int .u8 (s.d.x1 : Int))).setCell ⟨bz, 2, none⟩ (.int .u8 (s.d.x2 : Int))).setCell ⟨bz, 3, none⟩ (.int .u8 (s.d.x3 : Int))).setCell ⟨bz, 4, none⟩ (.int .u8 (s.d.x4 : Int))).setCell ⟨bz, 5, none⟩ (.int .u8 (s.d.x5 : Int))).setCell ⟨bz, 6, none⟩ (.int .u8 (s.d.x6 : Int))).setCell ⟨bz, 7, none⟩ (.int .u8 (s.d.x7 : Int))).setCell ⟨bz, 8, none⟩ (.int .i64 s.no)).setCell ⟨bz, 9, none⟩ (.int .i64 s.fe)).setCell ⟨bz, 10, none⟩ (.int .i64 s.ki)).setCell ⟨bz, 11, none⟩ (.slice s.A s.n s.c)).setCell ⟨bz, 12, none⟩ (.slice s.A' s.n' s.c'))) w.heap.size) := (hg.block _ (block_lt HT3.out) (by intro e; injection e with e; omega)).trans HT3.out
        have HO4 : Hid (Box o' ((((((((((((((u3.setCell ⟨bz, 0, none⟩ (.int .u8 (s.d.x0 : Int))).setCell ⟨bz, 1, none⟩ (.int .u8 (s.d.x1 : Int))).setCell ⟨bz, 2, none⟩ (.int .u8 (s.d.x2 : Int))).setCell ⟨bz, 3, none⟩ (.int .u8 (s.d.x3 : Int))).setCell ⟨bz, 4, none⟩ (.int .u8 (s.d.x4 : Int))).setCell ⟨bz, 5, none⟩ (.int .u8 (s.d.x5 : Int))).setCell ⟨bz, 6, none⟩ (.int .u8 (s.d.x6 : Int))).setCell ⟨bz, 7, none⟩ (.int .u8 (s.d.x7 : Int))).setCell ⟨bz, 8, none⟩ (.int .i64 s.no)).setCell ⟨bz, 9, none⟩ (.int .i64 s.fe)).setCell ⟨bz, 10, none⟩ (.int .i64 s.ki)).setCell ⟨bz, 11, none⟩ (.slice s.A s.n s.c)).setCell ⟨bz, 12, none⟩ (.slice s.A' s.n' s.c'))) (w.heap.size + 1)) := (hg.block _ (block_lt HO3.out) (by intro e; injection e with e; omega)).trans HO3.out
        have Hw4 := Lib.hid (Hw3.out.trans hbw); have Hat4 := Lib.hid (Hat3.out.keep hbw (Nat.le_refl _)); have Hot4 := Lib.hid (Hot3.out.keep hbw (Nat.le_refl _))
        refine hK.out _ _ HT4.out (fun _ => ?_)
        clear hK K z0 z1 z2 z3 z4 z5 z6 z7 z8 z9 z10 z11 z12 zf s1 hg hbw
        generalize (((((((((((((u3.setCell ⟨bz, 0, none⟩ (.int .u8 (s.d.x0 : Int))).setCell ⟨bz, 1, none⟩ (.int .u8 (s.d.x1 : Int))).setCell ⟨bz, 2, none⟩ (.int .u8 (s.d.x2 : Int))).setCell ⟨bz, 3, none⟩ (.int .u8 (s.d.x3 : Int))).setCell ⟨bz, 4, none⟩ (.int .u8 (s.d.x4 : Int))).setCell ⟨bz, 5, none⟩ (.int .u8 (s.d.x5 : Int))).setCell ⟨bz, 6, none⟩ (.int .u8 (s.d.x6 : Int))).setCell ⟨bz, 7, none⟩ (.int .u8 (s.d.x7 : Int))).setCell ⟨bz, 8, none⟩ (.int .i64 s.no)).setCell ⟨bz, 9, none⟩ (.int .i64 s.fe)).setCell ⟨bz, 10, none⟩ (.int .i64 s.ki)).setCell ⟨bz, 11, none⟩ (.slice s.A s.n s.c)).setCell ⟨bz, 12, none⟩ (.slice s.A' s.n' s.c')) = u4 at *
        refine takeH 11 (some 7) (v := ?_) rfl (by kernel_rfl) (by kernel_rfl) (by kernel_rfl) (by kernel_rfl) (fun _ _ _ h => h) (Or.inl ⟨by kernel_rfl, ?hy⟩) (by assumption) ?_
        case hy =>
          intro w' hSw
          try dsimp only at hSw
          first
            | (go_simp; done)
            | (go_simp; with_reducible rfl)
        simp only [Act.put, List.setIfInBounds_toArray, List.set_cons_zero, List.set_cons_succ]
        refine wpAnyH_done (by kernel_rfl) ?_ _
        go_wp2_with fail
        go_meet
        exact ⟨bz, s, err, L', rfl, rfl, HSo, Lib.hid (HA.out.owned HW4.out), HW4, HX4, HBk4, HT4, HO4, Hw4, Hat4, Hot4, by omega⟩
    case rest =>
      obtain ⟨b6, s, err, L', rfl, rfl, HSo, HsA, HsO, HX, HBk, HT, HO, Hw, Hat, Hot, hb6⟩ := hcut
      by_cases he : err = 0
      · subst he
        have e1 : ((0 : Int) != 0) = false := by decide
        obtain ⟨hck, hor⟩ := HSo.out
        obtain ⟨_, o0, o1, o2, o3, o4, o5, hL⟩ := hor.resolve_right (fun h => h.1 rfl)
        clear hor
        have hs1 : signE [] ⟨t'.d, askedT t'.d t'.no t'.fe t'.ki t'.bo⟩ = ([⟨t'.d, askedT t'.d t'.no t'.fe t'.ki t'.bo⟩], 0) := rfl
        rw [hs1] at o5 hL
        simp only at o5 hL
        subst hL
        have Hask : Hid (askedT s.d s.no s.fe s.ki s.bo = askedT t'.d t'.no t'.fe t'.ki t'.bo) := by show _ = _; rw [o0, o1, o2, o3, o4]
        have Hqs : Hid ((askedT t'.d t'.no t'.fe t'.ki t'.bo).ok) := hashWord_ok _ _
        have Hver : Hid (verT [⟨t'.d, askedT t'.d t'.no t'.fe t'.ki t'.bo⟩] s = 0) := by
          show _ = _
          unfold verT
          rw [Hask.out, o0, o1, o2, o3, o4, o5, checkT_sig, ← hck, if_pos rfl]
          have hp : posE [(⟨t'.d, askedT t'.d t'.no t'.fe t'.ki t'.bo⟩ : En)] ⟨t'.d, askedT t'.d t'.no t'.fe t'.ki t'.bo⟩ = some 0 := posE_at (by simp) rfl
          unfold verS
          rw [hp]
          simp
        have Hver0 : Hid (verT [] s = 16) := by
          show _ = _
          unfold verT
          rw [o1, o2, o3, o4, o5, checkT_sig, ← hck, if_pos rfl]
          rfl
        clear hck o0 o1 o2 o3 o4 o5 hs1 HSo
        generalize askedT t'.d t'.no t'.fe t'.ki t'.bo = qs at *
        obtain ⟨y0, y1, y2, y3, y4, y5, y6, y7, y8, y9, y10, y11, y12⟩ := HT.out.all
        obtain ⟨z0, z1, z2, z3, z4, z5, z6, z7, z8, z9, z10, z11, z12⟩ := HO.out.all
        have zf := block_free HO.out
        obtain ⟨s1, g1⟩ := setKey HO.out t'.d
        go_upto_region 9 with fail
        have hlt := block_lt HO.out
        have hbw := ((Below.refl wc.heap.size wc).mono Hw.out.size).grown g1 Hw.out.size (fun q hq => by injection hq with hq; omega)
        have HP4 := Lib.hid s1; have HBk4 := Lib.hid (HBk.out.box HO.out g1); have HsO4 := Lib.hid (HsO.out.box HO.out g1)
        have HX4 : Hid (Box s (((((((((wc.setCell ⟨(w.heap.size + 1), 0, none⟩ (.int .u8 (t'.d.x0 : Int))).setCell ⟨(w.heap.size + 1), 1, none⟩ (.int .u8 (t'.d.x1 : Int))).setCell ⟨(w.heap.size + 1), 2, none⟩ (.int .u8 (t'.d.x2 : Int))).setCell ⟨(w.heap.size + 1), 3, none⟩ (.int .u8 (t'.d.x3 : Int))).setCell ⟨(w.heap.size + 1), 4, none⟩ (.int .u8 (t'.d.x4 : Int))).setCell ⟨(w.heap.size + 1), 5, none⟩ (.int .u8 (t'.d.x5 : Int))).setCell ⟨(w.heap.size + 1), 6, none⟩ (.int .u8 (t'.d.x6 : Int))).setCell ⟨(w.heap.size + 1), 7, none⟩ (.int .u8 (t'.d.x7 : Int)))) b6) := (g1.block _ (block_lt HX.out) (by intro e; injection e with e; omega)).trans HX.out
        have Hw4 := Lib.hid (Hw.out.trans hbw); have Hot4 := Lib.hid ((Hot.out.keep hbw (Nat.le_refl _)).at Hw4.out.size); have HsA4 := Lib.hid (HsA.out.owned HsO4.out)
        have hb0 : w.heap.size + 1 < b6 := hb6
        generalize (((((((((wc.setCell ⟨(w.heap.size + 1), 0, none⟩ (.int .u8 (t'.d.x0 : Int))).setCell ⟨(w.heap.size + 1), 1, none⟩ (.int .u8 (t'.d.x1 : Int))).setCell ⟨(w.heap.size + 1), 2, none⟩ (.int .u8 (t'.d.x2 : Int))).setCell ⟨(w.heap.size + 1), 3, none⟩ (.int .u8 (t'.d.x3 : Int))).setCell ⟨(w.heap.size + 1), 4, none⟩ (.int .u8 (t'.d.x4 : Int))).setCell ⟨(w.heap.size + 1), 5, none⟩ (.int .u8 (t'.d.x5 : Int))).setCell ⟨(w.heap.size + 1), 6, none⟩ (.int .u8 (t'.d.x6 : Int))).setCell ⟨(w.heap.size + 1), 7, none⟩ (.int .u8 (t'.d.x7 : Int)))) = v4 at *
        obtain ⟨o2, ho2⟩ : ∃ o2 : TxV, o2 = o'.withKey t'.d := ⟨_, rfl⟩
        rw [← ho2] at HP4
        have Hd2 : Hid (o2.d = t'.d) := by show _ = _; rw [ho2]; rfl
        have HoA4 : Hid (o2.At v4) := by
          have ha := Hot4.out
          rw [ho2]
          exact ⟨(Hat.out.at Hw.out.size).ok, ha.r1, ha.r2, ha.c1, ha.c2, ha.b1, ha.b2, ha.m1, ha.m2⟩
        clear ho2 Hot4 HT HO HX HBk Hw Hat Hot HsA HsO hbw g1 s1 hlt y0 y1 y2 y3 y4 y5 y6 y7 y8 y9 y10 y11 y12 z0 z1 z2 z3 z4 z5 z6 z7 z8 z9 z10 z11 z12 zf HsO4
        obtain ⟨qo, hqo⟩ : ∃ qo : D8, qo = askedT o2.d o2.no o2.fe o2.ki o2.bo := ⟨_, rfl⟩
        have Hqo := Lib.hid hqo
        clear hqo
        go_cut [50] (fun s50 wx => s50 = .bool (eqI qo.L qs.L) ∧ Hid (Box o2 wx (w.heap.size + 1)) ∧ Hid (Box s wx b6) ∧ Hid (BookAt wx (w2.heap.size + 2) (w2.heap.size + 1) w2.heap.size [⟨t'.d, qs⟩]) ∧ Hid (Below w.heap.size w wx) ∧ Hid (o2.At wx) ∧ Hid (s.At wx))
        case first =>
          have hS : v4.heap[w.heap.size + 1]? = some (.cells #[.int .u8 (o2.d.x0 : Int), .int .u8 (o2.d.x1 : Int), .int .u8 (o2.d.x2 : Int), .int .u8 (o2.d.x3 : Int), .int .u8 (o2.d.x4 : Int), .int .u8 (o2.d.x5 : Int), .int .u8 (o2.d.x6 : Int), .int .u8 (o2.d.x7 : Int), .int .i64 o2.no, .int .i64 o2.fe, .int .i64 o2.ki, .slice o2.A o2.n o2.c, .slice o2.A' o2.n' o2.c'] 26 (0, 0)) ∧ v4.heap[b6]? = some (.cells #[.int .u8 (s.d.x0 : Int), .int .u8 (s.d.x1 : Int), .int .u8 (s.d.x2 : Int), .int .u8 (s.d.x3 : Int), .int .u8 (s.d.x4 : Int), .int .u8 (s.d.x5 : Int), .int .u8 (s.d.x6 : Int), .int .u8 (s.d.x7 : Int), .int .i64 s.no, .int .i64 s.fe, .int .i64 s.ki, .slice s.A s.n s.c, .slice s.A' s.n' s.c'] 26 (0, 0)) := ⟨HP4.out, HX4.out⟩
          have Hkeep : Hid (∀ u u' : World, Below u.heap.size u u' → v4.heap.size ≤ u.heap.size → (u.heap[w.heap.size + 1]? = some (.cells #[.int .u8 (o2.d.x0 : Int), .int .u8 (o2.d.x1 : Int), .int .u8 (o2.d.x2 : Int), .int .u8 (o2.d.x3 : Int), .int .u8 (o2.d.x4 : Int), .int .u8 (o2.d.x5 : Int), .int .u8 (o2.d.x6 : Int), .int .u8 (o2.d.x7 : Int), .int .i64 o2.no, .int .i64 o2.fe, .int .i64 o2.ki, .slice o2.A o2.n o2.c, .slice o2.A' o2.n' o2.c'] 26 (0, 0)) ∧ u.heap[b6]? = some (.cells #[.int .u8 (s.d.x0 : Int), .int .u8 (s.d.x1 : Int), .int .u8 (s.d.x2 : Int), .int .u8 (s.d.x3 : Int), .int .u8 (s.d.x4 : Int), .int .u8 (s.d.x5 : Int), .int .u8 (s.d.x6 : Int), .int .u8 (s.d.x7 : Int), .int .i64 s.no, .int .i64 s.fe, .int .i64 s.ki, .slice s.A s.n s.c, .slice s.A' s.n' s.c'] 26 (0, 0))) → (u'.heap[w.heap.size + 1]? = some (.cells #[.int .u8 (o2.d.x0 : Int), .int .u8 (o2.d.x1 : Int), .int .u8 (o2.d.x2 : Int), .int .u8 (o2.d.x3 : Int), .int .u8 (o2.d.x4 : Int), .int .u8 (o2.d.x5 : Int), .int .u8 (o2.d.x6 : Int), .int .u8 (o2.d.x7 : Int), .int .i64 o2.no, .int .i64 o2.fe, .int .i64 o2.ki, .slice o2.A o2.n o2.c, .slice o2.A' o2.n' o2.c'] 26 (0, 0)) ∧ u'.heap[b6]? = some (.cells #[.int .u8 (s.d.x0 : Int), .int .u8 (s.d.x1 : Int), .int .u8 (s.d.x2 : Int), .int .u8 (s.d.x3 : Int), .int .u8 (s.d.x4 : Int), .int .u8 (s.d.x5 : Int), .int .u8 (s.d.x6 : Int), .int .u8 (s.d.x7 : Int), .int .i64 s.no, .int .i64 s.fe, .int .i64 s.ki, .slice s.A s.n s.c, .slice s.A' s.n' s.c'] 26 (0, 0)))) := fun u u' hb _ h => ⟨block_below h.1 hb (block_lt h.1), block_below h.2 hb (block_lt h.2)⟩
          have Hcells : Hid (∀ u : World, (u.heap[w.heap.size + 1]? = some (.cells #[.int .u8 (o2.d.x0 : Int), .int .u8 (o2.d.x1 : Int), .int .u8 (o2.d.x2 : Int), .int .u8 (o2.d.x3 : Int), .int .u8 (o2.d.x4 : Int), .int .u8 (o2.d.x5 : Int), .int .u8 (o2.d.x6 : Int), .int .u8 (o2.d.x7 : Int), .int .i64 o2.no, .int .i64 o2.fe, .int .i64 o2.ki, .slice o2.A o2.n o2.c, .slice o2.A' o2.n' o2.c'] 26 (0, 0)) ∧ u.heap[b6]? = some (.cells #[.int .u8 (s.d.x0 : Int), .int .u8 (s.d.x1 : Int), .int .u8 (s.d.x2 : Int), .int .u8 (s.d.x3 : Int), .int .u8 (s.d.x4 : Int), .int .u8 (s.d.x5 : Int), .int .u8 (s.d.x6 : Int), .int .u8 (s.d.x7 : Int), .int .i64 s.no, .int .i64 s.fe, .int .i64 s.ki, .slice s.A s.n s.c, .slice s.A' s.n' s.c'] 26 (0, 0))) → (Instr.loadAt 26 (.pointer (some ⟨w.heap.size + 1, 0, none⟩))).run Try.prog u = .ok (.agg #[.int .u8 (o2.d.x0 : Int), .int .u8 (o2.d.x1 : Int), .int .u8 (o2.d.x2 : Int), .int .u8 (o2.d.x3 : Int), .int .u8 (o2.d.x4 : Int), .int .u8 (o2.d.x5 : Int), .int .u8 (o2.d.x6 : Int), .int .u8 (o2.d.x7 : Int), .int .i64 o2.no, .int .i64 o2.fe, .int .i64 o2.ki, .slice o2.A o2.n o2.c, .slice o2.A' o2.n' o2.c']) u ∧ (Instr.loadAt 26 (.pointer (some ⟨b6, 0, none⟩))).run Try.prog u = .ok (.agg #[.int .u8 (s.d.x0 : Int), .int .u8 (s.d.x1 : Int), .int .u8 (s.d.x2 : Int), .int .u8 (s.d.x3 : Int), .int .u8 (s.d.x4 : Int), .int .u8 (s.d.x5 : Int), .int .u8 (s.d.x6 : Int), .int .u8 (s.d.x7 : Int), .int .i64 s.no, .int .i64 s.fe, .int .i64 s.ki, .slice s.A s.n s.c, .slice s.A' s.n' s.c']) u) := fun u h => ⟨loadX h.1, loadX h.2⟩
          have hC1 : Hid (∀ u, o2.At u → Calls Try.prog 30 #[.agg #[.int .u8 (o2.d.x0 : Int), .int .u8 (o2.d.x1 : Int), .int .u8 (o2.d.x2 : Int), .int .u8 (o2.d.x3 : Int), .int .u8 (o2.d.x4 : Int), .int .u8 (o2.d.x5 : Int), .int .u8 (o2.d.x6 : Int), .int .u8 (o2.d.x7 : Int), .int .i64 o2.no, .int .i64 o2.fe, .int .i64 o2.ki, .slice o2.A o2.n o2.c, .slice o2.A' o2.n' o2.c']] u fun e w' => e = .returned (.agg #[.int .u8 (qo.x0 : Int), .int .u8 (qo.x1 : Int), .int .u8 (qo.x2 : Int), .int .u8 (qo.x3 : Int), .int .u8 (qo.x4 : Int), .int .u8 (qo.x5 : Int), .int .u8 (qo.x6 : Int), .int .u8 (qo.x7 : Int)]) ∧ Below u.heap.size u w') := fun u h1 => by
            have := asked_any o2 u h1
            rw [← Hqo.out] at this
            exact this
          have hC2 : Hid (∀ u, s.At u → Calls Try.prog 30 #[.agg #[.int .u8 (s.d.x0 : Int), .int .u8 (s.d.x1 : Int), .int .u8 (s.d.x2 : Int), .int .u8 (s.d.x3 : Int), .int .u8 (s.d.x4 : Int), .int .u8 (s.d.x5 : Int), .int .u8 (s.d.x6 : Int), .int .u8 (s.d.x7 : Int), .int .i64 s.no, .int .i64 s.fe, .int .i64 s.ki, .slice s.A s.n s.c, .slice s.A' s.n' s.c']] u fun e w' => e = .returned (.agg #[.int .u8 (qs.x0 : Int), .int .u8 (qs.x1 : Int), .int .u8 (qs.x2 : Int), .int .u8 (qs.x3 : Int), .int .u8 (qs.x4 : Int), .int .u8 (qs.x5 : Int), .int .u8 (qs.x6 : Int), .int .u8 (qs.x7 : Int)]) ∧ Below u.heap.size u w') := fun u h1 => by
            have := asked_any s u h1
            rw [Hask.out] at this
            exact this
          have heq := eql_dig
          have hE : ∀ u, (binOp .eql 23 (.agg #[.int .u8 (qo.x0 : Int), .int .u8 (qo.x1 : Int), .int .u8 (qo.x2 : Int), .int .u8 (qo.x3 : Int), .int .u8 (qo.x4 : Int), .int .u8 (qo.x5 : Int), .int .u8 (qo.x6 : Int), .int .u8 (qo.x7 : Int)]) (.agg #[.int .u8 (qs.x0 : Int), .int .u8 (qs.x1 : Int), .int .u8 (qs.x2 : Int), .int .u8 (qs.x3 : Int), .int .u8 (qs.x4 : Int), .int .u8 (qs.x5 : Int), .int .u8 (qs.x6 : Int), .int .u8 (qs.x7 : Int)])).run Try.prog u = .ok (.bool (eqI qo.L qs.L)) u := fun u => by
            rw [heq]; rfl
          have hG : ∀ (x y : Operand) u, (eqGuard .eql 23 x y (.agg #[.int .u8 (qo.x0 : Int), .int .u8 (qo.x1 : Int), .int .u8 (qo.x2 : Int), .int .u8 (qo.x3 : Int), .int .u8 (qo.x4 : Int), .int .u8 (qo.x5 : Int), .int .u8 (qo.x6 : Int), .int .u8 (qo.x7 : Int)]) (.agg #[.int .u8 (qs.x0 : Int), .int .u8 (qs.x1 : Int), .int .u8 (qs.x2 : Int), .int .u8 (qs.x3 : Int), .int .u8 (qs.x4 : Int), .int .u8 (qs.x5 : Int), .int .u8 (qs.x6 : Int), .int .u8 (qs.x7 : Int)])).run Try.prog u = .ok () u := fun x y u => by first | (go_simp; done) | exact run_eqGuard_agg _ _ _ _ _ _ (by kernel_rfl)
          have hq := (Below.refl v4.heap.size v4).drew
          have HSa := Lib.hid (Hkeep.out _ _ hq (Nat.le_refl _) hS)
          have HQa := Lib.hid hq
          have hSd := Hcells.out _ HSa.out
          clear hS hq heq
          generalize Value.agg #[.int .u8 (o2.d.x0 : Int), .int .u8 (o2.d.x1 : Int), .int .u8 (o2.d.x2 : Int), .int .u8 (o2.d.x3 : Int), .int .u8 (o2.d.x4 : Int), .int .u8 (o2.d.x5 : Int), .int .u8 (o2.d.x6 : Int), .int .u8 (o2.d.x7 : Int), .int .i64 o2.no, .int .i64 o2.fe, .int .i64 o2.ki, .slice o2.A o2.n o2.c, .slice o2.A' o2.n' o2.c'] = Vo at *
          generalize Value.agg #[.int .u8 (s.d.x0 : Int), .int .u8 (s.d.x1 : Int), .int .u8 (s.d.x2 : Int), .int .u8 (s.d.x3 : Int), .int .u8 (s.d.x4 : Int), .int .u8 (s.d.x5 : Int), .int .u8 (s.d.x6 : Int), .int .u8 (s.d.x7 : Int), .int .i64 s.no, .int .i64 s.fe, .int .i64 s.ki, .slice s.A s.n s.c, .slice s.A' s.n' s.c'] = Vs at *
          generalize Value.agg #[.int .u8 (qo.x0 : Int), .int .u8 (qo.x1 : Int), .int .u8 (qo.x2 : Int), .int .u8 (qo.x3 : Int), .int .u8 (qo.x4 : Int), .int .u8 (qo.x5 : Int), .int .u8 (qo.x6 : Int), .int .u8 (qo.x7 : Int)] = Vq at *
          generalize Value.agg #[.int .u8 (qs.x0 : Int), .int .u8 (qs.x1 : Int), .int .u8 (qs.x2 : Int), .int .u8 (qs.x3 : Int), .int .u8 (qs.x4 : Int), .int .u8 (qs.x5 : Int), .int .u8 (qs.x6 : Int), .int .u8 (qs.x7 : Int)] = Vp at *
          generalize Value.agg #[.int .u8 (t.d.x0 : Int), .int .u8 (t.d.x1 : Int), .int .u8 (t.d.x2 : Int), .int .u8 (t.d.x3 : Int), .int .u8 (t.d.x4 : Int), .int .u8 (t.d.x5 : Int), .int .u8 (t.d.x6 : Int), .int .u8 (t.d.x7 : Int), .int .i64 t.no, .int .i64 t.fe, .int .i64 t.ki, .slice t.A t.n t.c, .slice t.A' t.n' t.c'] = Vt at *
          generalize Value.agg #[.int .u8 (o.d.x0 : Int), .int .u8 (o.d.x1 : Int), .int .u8 (o.d.x2 : Int), .int .u8 (o.d.x3 : Int), .int .u8 (o.d.x4 : Int), .int .u8 (o.d.x5 : Int), .int .u8 (o.d.x6 : Int), .int .u8 (o.d.x7 : Int), .int .i64 o.no, .int .i64 o.fe, .int .i64 o.ki, .slice o.A o.n o.c, .slice o.A' o.n' o.c'] = Vt2 at *
          refine wp_region_held_drew (S := fun w' => (Instr.loadAt 26 (.pointer (some ⟨w.heap.size + 1, 0, none⟩))).run Try.prog w' = .ok Vo w' ∧ (Instr.loadAt 26 (.pointer (some ⟨b6, 0, none⟩))).run Try.prog w' = .ok Vs w') (by kernel_rfl) hSd (fun hHeld => ?_)
          rw [show Array.replicate _ false = (#[false, false, false, false, false] : Array Bool) from rfl]
          refine takeH 0 (some 46) (v := Vo) rfl (by kernel_rfl) (by kernel_rfl) (by kernel_rfl) (by kernel_rfl) (fun _ _ _ h => h) (Or.inl ⟨by kernel_rfl, ?hy⟩) (by assumption) ?_
          case hy =>
            intro w' hSw
            try dsimp only at hSw
            obtain ⟨l1, l2⟩ := hSw
            simp [execOp, Act.eval, l1, Result.andThen]
          simp only [Act.put, List.setIfInBounds_toArray, List.set_cons_zero, List.set_cons_succ]
          refine takeH 2 (some 48) (v := Vs) rfl (by kernel_rfl) (by kernel_rfl) (by kernel_rfl) (by kernel_rfl) (fun _ _ _ h => h) (Or.inl ⟨by kernel_rfl, ?hy⟩) (by assumption) ?_
          case hy =>
            intro w' hSw
            try dsimp only at hSw
            obtain ⟨l1, l2⟩ := hSw
            simp [execOp, Act.eval, l2, Result.andThen]
          simp only [Act.put, List.setIfInBounds_toArray, List.set_cons_zero, List.set_cons_succ]
          refine wpAnyH_ready (rs := [1]) (by kernel_rfl) (by simp) ?_
          refine AllReadyH.cons rfl (fun K hK => ?_) AllReadyH.nil
          rw [if_pos (by kernel_rfl)]
          go_simp
          refine (hC1.out v4.drew (HoA4.out.up HQa.out)).mono ?_
          rintro e v5 ⟨rfl, hb⟩
          have HSb := Lib.hid (Hkeep.out _ _ hb HQa.out.size HSa.out)
          have HQb := Lib.hid (HQa.out.trans (hb.mono HQa.out.size))
          have hSn := Hcells.out _ HSb.out
          refine hK.out _ _ hSn (fun _ => ?_)
          clear hK K hb
          simp only [List.setIfInBounds_toArray, List.set_cons_zero, List.set_cons_succ]
          refine wpAnyH_ready (rs := [3]) (by kernel_rfl) (by simp) ?_
          refine AllReadyH.cons rfl (fun K hK => ?_) AllReadyH.nil
          rw [if_pos (by kernel_rfl)]
          go_simp
          refine (hC2.out v5 (HsA4.out.up HQb.out)).mono ?_
          rintro e v6 ⟨rfl, hb⟩
          have HSc := Lib.hid (Hkeep.out _ _ hb HQb.out.size HSb.out)
          have HQc := Lib.hid (HQb.out.trans (hb.mono HQb.out.size))
          have hSn := Hcells.out _ HSc.out
          refine hK.out _ _ hSn (fun _ => ?_)
          clear hK K hb
          simp only [List.setIfInBounds_toArray, List.set_cons_zero, List.set_cons_succ]
          refine takeH 4 (some 50) (v := .bool (eqI qo.L qs.L)) rfl (by kernel_rfl) (by kernel_rfl) (by kernel_rfl) (by kernel_rfl) (fun _ _ _ h => h) (Or.inl ⟨by kernel_rfl, fun w' _ => exec_bin (by rfl) (by rfl) (by rfl) (hG _ _ w') (hE w')⟩) (by assumption) ?_
          simp only [Act.put, List.setIfInBounds_toArray, List.set_cons_zero, List.set_cons_succ]
          refine wpAnyH_done (by kernel_rfl) ?_ _
          go_wp2_with fail
          go_meet
          exact ⟨rfl, Lib.hid (HP4.out.below HQc.out), Lib.hid (HX4.out.below HQc.out), Lib.hid (HBk4.out.below HQc.out), Lib.hid (Hw4.out.trans (HQc.out.mono Hw4.out.size)), Lib.hid (HoA4.out.up HQc.out), Lib.hid (HsA4.out.up HQc.out)⟩
        case rest =>
          obtain ⟨rfl, HP, HX, HBk, Hw, HoA, HsA⟩ := hcut
          obtain ⟨v6, rfl⟩ : ∃ v6 : World, v6 = wc := ⟨_, rfl⟩
          clear HP4 HX4 HBk4 HoA4 HsA4 Hw4
          by_cases hq : qo = qs
          · have e3 : eqI qo.L qs.L = true := eqN_iff.2 hq
            rw [e3]
            clear hq HP HoA
            have HV : Hid (∀ u, s.At u → BookAt u (w2.heap.size + 2) (w2.heap.size + 1) w2.heap.size [⟨t'.d, qs⟩] → Calls Try.prog 31 #[.agg #[.int .u8 (s.d.x0 : Int), .int .u8 (s.d.x1 : Int), .int .u8 (s.d.x2 : Int), .int .u8 (s.d.x3 : Int), .int .u8 (s.d.x4 : Int), .int .u8 (s.d.x5 : Int), .int .u8 (s.d.x6 : Int), .int .u8 (s.d.x7 : Int), .int .i64 s.no, .int .i64 s.fe, .int .i64 s.ki, .slice s.A s.n s.c, .slice s.A' s.n' s.c'], .iface 57 (.pointer (some ⟨w2.heap.size + 1, 0, none⟩))] u fun e w' => e = .returned (.int .i64 0) ∧ Below u.heap.size u w') := fun u h1 h2 => by
              have := txverify_any s _ _ _ [⟨t'.d, qs⟩] u h1 h2 (by simp)
              rw [Hver.out] at this
              exact this
            go_wp2_with fail
            refine (known_any v6).mono ?_
            rintro e v7 ⟨rfl, hb⟩
            have HX7 := Lib.hid (HX.out.below hb); have HBk7 := Lib.hid (HBk.out.below hb); have Hw7 := Lib.hid (Hw.out.trans (hb.mono Hw.out.size)); have HsA7 := Lib.hid (HsA.out.up hb)
            clear hb HX HBk Hw HsA
            obtain ⟨y0, y1, y2, y3, y4, y5, y6, y7, y8, y9, y10, y11, y12⟩ := HX7.out.all
            go_wp2_with fail
            refine (HV.out v7 HsA7.out HBk7.out).mono ?_
            rintro e v8 ⟨rfl, hb⟩
            have Hw8 := Lib.hid (Hw7.out.trans (hb.mono Hw7.out.size))
            clear hb y0 y1 y2 y3 y4 y5 y6 y7 y8 y9 y10 y11 y12 HX7 HBk7 HsA7
            go_wp2
            go_ret
            exact ⟨rfl, Hw8.out⟩
          · have e3 : eqI qo.L qs.L = false := by rw [Bool.eq_false_iff]; exact fun h => hq (eqN_iff.1 h)
            rw [e3]
            have Hnp : Hid (posE [(⟨t'.d, qs⟩ : En)] ⟨o2.d, qo⟩ = none) := posE_none.2 (by
              intro hm
              rw [List.mem_singleton] at hm
              injection hm with _ hm
              exact hq hm)
            have Hvo : Hid (verT [⟨t'.d, qs⟩] o2 = if checkT o2.no o2.fe o2.ki o2.bo o2.si = 0 then 16 else checkT o2.no o2.fe o2.ki o2.bo o2.si) := by
              show _ = _
              unfold verT
              rw [← Hqo.out]
              unfold verS
              rw [Hnp.out]
              simp
            obtain ⟨y0, y1, y2, y3, y4, y5, y6, y7, y8, y9, y10, y11, y12⟩ := HP.out.all
            have HY7 : Hid (Box o2 (v6.alloc (.cells #[.int .u8 (o2.d.x0 : Int), .int .u8 (o2.d.x1 : Int), .int .u8 (o2.d.x2 : Int), .int .u8 (o2.d.x3 : Int), .int .u8 (o2.d.x4 : Int), .int .u8 (o2.d.x5 : Int), .int .u8 (o2.d.x6 : Int), .int .u8 (o2.d.x7 : Int), .int .i64 o2.no, .int .i64 o2.fe, .int .i64 o2.ki, .slice o2.A o2.n o2.c, .slice o2.A' o2.n' o2.c'] 26)) v6.heap.size) := heap_alloc_new v6 _
            have HQ7 : Hid (Below v6.heap.size v6 (v6.alloc (.cells #[.int .u8 (o2.d.x0 : Int), .int .u8 (o2.d.x1 : Int), .int .u8 (o2.d.x2 : Int), .int .u8 (o2.d.x3 : Int), .int .u8 (o2.d.x4 : Int), .int .u8 (o2.d.x5 : Int), .int .u8 (o2.d.x6 : Int), .int .u8 (o2.d.x7 : Int), .int .i64 o2.no, .int .i64 o2.fe, .int .i64 o2.ki, .slice o2.A o2.n o2.c, .slice o2.A' o2.n' o2.c'] 26))) := h_one v6 _
            have HX7 := Lib.hid (HX.out.below HQ7.out)
            clear hq e3
            go_upto_region 12 with fail
            generalize v6.alloc (.cells #[.int .u8 (o2.d.x0 : Int), .int .u8 (o2.d.x1 : Int), .int .u8 (o2.d.x2 : Int), .int .u8 (o2.d.x3 : Int), .int .u8 (o2.d.x4 : Int), .int .u8 (o2.d.x5 : Int), .int .u8 (o2.d.x6 : Int), .int .u8 (o2.d.x7 : Int), .int .i64 o2.no, .int .i64 o2.fe, .int .i64 o2.ki, .slice o2.A o2.n o2.c, .slice o2.A' o2.n' o2.c'] 26) = v7 at *
            obtain ⟨b8, hb8⟩ : ∃ b8, b8 = v6.heap.size := ⟨_, rfl⟩
            rw [← hb8] at HY7
            rw [← hb8]
            have Hb8 := Lib.hid hb8
            clear hb8 y0 y1 y2 y3 y4 y5 y6 y7 y8 y9 y10 y11 y12
            obtain ⟨z0, z1, z2, z3, z4, z5, z6, z7, z8, z9, z10, z11, z12⟩ := HX7.out.all
            obtain ⟨y0, y1, y2, y3, y4, y5, y6, y7, y8, y9, y10, y11, y12⟩ := HY7.out.all
            have yf := block_free HY7.out
            obtain ⟨s2, g2⟩ := setSig HY7.out s.A' s.n' s.c' s.si
            go_upto_region 14 with fail
            have hqq := HQ7.out.grown g2 (by have := HQ7.out.size; exact this) (fun q hq => by injection hq with hq; rw [← hq, Hb8.out]; exact Nat.le_refl _)
            have HY8 := Lib.hid s2
            generalize v7.setCell ⟨b8, 12, none⟩ (.slice s.A' s.n' s.c') = v8 at *
            clear y0 y1 y2 y3 y4 y5 y6 y7 y8 y9 y10 y11 y12 z0 z1 z2 z3 z4 z5 z6 z7 z8 z9 z10 z11 z12 yf s2 g2 HY7 HQ7 HX7
            have HP8 := Lib.hid (HP.out.below hqq); have HX8 := Lib.hid (HX.out.below hqq); have HBk8 := Lib.hid (HBk.out.below hqq); have Hw8 := Lib.hid (Hw.out.trans (hqq.mono Hw.out.size)); have HoA8 := Lib.hid (HoA.out.up hqq); have HsA8 := Lib.hid (HsA.out.up hqq)
            clear hqq HP HX HBk Hw HoA HsA Hb8
            obtain ⟨so, hso⟩ : ∃ so : TxV, so = o2.withSig s.A' s.n' s.c' s.si := ⟨_, rfl⟩
            rw [← hso] at HY8
            have Hvs : Hid (verT [⟨t'.d, qs⟩] so = if checkT so.no so.fe so.ki so.bo so.si = 0 then 16 else checkT so.no so.fe so.ki so.bo so.si) := by
              show _ = _
              unfold verT
              rw [show askedT so.d so.no so.fe so.ki so.bo = qo from by rw [hso]; exact Hqo.out.symm, show so.d = o2.d from by rw [hso]; rfl]
              unfold verS
              rw [Hnp.out]
              simp
            have HyA8 : Hid (so.At v8) := by
              have ha := HoA8.out
              have hs := HsA8.out
              rw [hso]
              exact ⟨ha.ok, ha.r1, hs.r2, ha.c1, hs.c2, ha.b1, hs.b2, ha.m1, hs.m2⟩
            clear hso Hnp Hqo
            obtain ⟨y0, y1, y2, y3, y4, y5, y6, y7, y8, y9, y10, y11, y12⟩ := HY8.out.all
            go_wp2_with fail
            refine (of_any so v8).mono ?_
            rintro e v9 ⟨rfl, hb⟩
            have HP9 := Lib.hid (HP8.out.below hb); have HX9 := Lib.hid (HX8.out.below hb); have HY9 := Lib.hid (HY8.out.below hb); have HBk9 := Lib.hid (HBk8.out.below hb); have Hw9 := Lib.hid (Hw8.out.trans (hb.mono Hw8.out.size)); have HoA9 := Lib.hid (HoA8.out.up hb); have HsA9 := Lib.hid (HsA8.out.up hb); have HyA9 := Lib.hid (HyA8.out.up hb)
            clear hb HP8 HX8 HY8 HBk8 Hw8 HoA8 HsA8 HyA8 y0 y1 y2 y3 y4 y5 y6 y7 y8 y9 y10 y11 y12
            go_wp2_with fail
            refine (checkr_any so v9 HyA9.out).mono ?_
            rintro e v10 ⟨rfl, hb⟩
            have HP10 := Lib.hid (HP9.out.below hb); have HX10 := Lib.hid (HX9.out.below hb); have HY10 := Lib.hid (HY9.out.below hb); have HBk10 := Lib.hid (HBk9.out.below hb); have Hw10 := Lib.hid (Hw9.out.trans (hb.mono Hw9.out.size)); have HoA10 := Lib.hid (HoA9.out.up hb); have HsA10 := Lib.hid (HsA9.out.up hb); have HyA10 := Lib.hid (HyA9.out.up hb)
            clear hb HP9 HX9 HY9 HBk9 Hw9 HoA9 HsA9 HyA9
            generalize checkT so.no so.fe so.ki so.bo so.si = cs at *
            obtain ⟨want, hwant⟩ : ∃ x : Int, x = verT [⟨t'.d, qs⟩] so := ⟨_, rfl⟩
            have Hwant := Lib.hid hwant
            clear hwant
            go_upto_if 67 with fail
            go_cut [9] (fun s9 wx => s9 = .int .i64 want ∧ wx = v10)
            case first =>
              by_cases hc : cs = 0
              · have hx : Hid (want = 16) := by show _ = _; rw [Hwant.out, Hvs.out, if_pos hc]
                subst hc
                go_wp2_with fail
                go_meet
                exact ⟨by rw [hx.out], rfl⟩
              · have hx : Hid (want = cs) := by show _ = _; rw [Hwant.out, Hvs.out, if_neg hc]
                have e5 : (cs != 0) = true := by simpa using hc
                go_wp2_with fail
                go_meet
                exact ⟨by rw [hx.out], rfl⟩
            case rest =>
            obtain ⟨rfl, rfl⟩ := hcut
            obtain ⟨y0, y1, y2, y3, y4, y5, y6, y7, y8, y9, y10, y11, y12⟩ := HP10.out.all
            go_wp2_with fail
            refine (of_any o2 _).mono ?_
            rintro e v11 ⟨rfl, hb⟩
            have HP11 := Lib.hid (HP10.out.below hb); have HX11 := Lib.hid (HX10.out.below hb); have HY11 := Lib.hid (HY10.out.below hb); have HBk11 := Lib.hid (HBk10.out.below hb); have Hw11 := Lib.hid (Hw10.out.trans (hb.mono Hw10.out.size)); have HoA11 := Lib.hid (HoA10.out.up hb); have HsA11 := Lib.hid (HsA10.out.up hb); have HyA11 := Lib.hid (HyA10.out.up hb)
            clear hb HP10 HX10 HY10 HBk10 Hw10 HoA10 HsA10 HyA10 y0 y1 y2 y3 y4 y5 y6 y7 y8 y9 y10 y11 y12
            go_wp2_with fail
            refine (checkr_any o2 v11 HoA11.out).mono ?_
            rintro e v12 ⟨rfl, hb⟩
            have HP12 := Lib.hid (HP11.out.below hb); have HX12 := Lib.hid (HX11.out.below hb); have HY12 := Lib.hid (HY11.out.below hb); have HBk12 := Lib.hid (HBk11.out.below hb); have Hw12 := Lib.hid (Hw11.out.trans (hb.mono Hw11.out.size)); have HoA12 := Lib.hid (HoA11.out.up hb); have HsA12 := Lib.hid (HsA11.out.up hb); have HyA12 := Lib.hid (HyA11.out.up hb)
            clear hb HP11 HX11 HY11 HBk11 Hw11 HoA11 HsA11 HyA11 Hvs
            generalize checkT o2.no o2.fe o2.ki o2.bo o2.si = co at *
            obtain ⟨vo, hvo⟩ : ∃ x : Int, x = verT [⟨t'.d, qs⟩] o2 := ⟨_, rfl⟩
            rw [← hvo] at Hvo
            have HV : Hid (∀ u, o2.At u → BookAt u (w2.heap.size + 2) (w2.heap.size + 1) w2.heap.size [⟨t'.d, qs⟩] → Calls Try.prog 31 #[.agg #[.int .u8 (o2.d.x0 : Int), .int .u8 (o2.d.x1 : Int), .int .u8 (o2.d.x2 : Int), .int .u8 (o2.d.x3 : Int), .int .u8 (o2.d.x4 : Int), .int .u8 (o2.d.x5 : Int), .int .u8 (o2.d.x6 : Int), .int .u8 (o2.d.x7 : Int), .int .i64 o2.no, .int .i64 o2.fe, .int .i64 o2.ki, .slice o2.A o2.n o2.c, .slice o2.A' o2.n' o2.c'], .iface 57 (.pointer (some ⟨w2.heap.size + 1, 0, none⟩))] u fun e w' => e = .returned (.int .i64 vo) ∧ Below u.heap.size u w') := fun u h1 h2 => by
              have := txverify_any o2 _ _ _ [⟨t'.d, qs⟩] u h1 h2 (by simp)
              rw [← hvo] at this
              exact this
            clear hvo
            go_upto_region 18 with fail
            go_cut [92] (fun s92 wx => s92 = .bool false ∧ Hid (Below v12.heap.size v12 wx))
            case first =>
              obtain ⟨y0, y1, y2, y3, y4, y5, y6, y7, y8, y9, y10, y11, y12⟩ := HP12.out.all
              by_cases hc : co = 0
              · have hx : vo = 16 := by rw [Hvo.out, if_pos hc]
                subst hc hx
                go_wp2_with fail
                refine (HV.out v12 HoA12.out HBk12.out).mono ?_
                rintro e v13 ⟨rfl, hb⟩
                go_wp2_with fail
                go_meet
                exact ⟨rfl, Lib.hid hb⟩
              · have hx : vo = co := by rw [Hvo.out, if_neg hc]
                have e5 : (co != 0) = true := by simpa using hc
                have e6 : (co == 0) = false := by simpa using hc
                subst hx
                go_wp2_with fail
                refine (HV.out v12 HoA12.out HBk12.out).mono ?_
                rintro e v13 ⟨rfl, hb⟩
                go_wp2_with fail
                go_meet
                exact ⟨by simp, Lib.hid hb⟩
            case rest =>
            obtain ⟨rfl, hb⟩ := hcut
            obtain ⟨v13, rfl⟩ : ∃ v13 : World, v13 = wc := ⟨_, rfl⟩
            have HX13 := Lib.hid (HX12.out.below hb.out); have HY13 := Lib.hid (HY12.out.below hb.out); have HBk13 := Lib.hid (HBk12.out.below hb.out); have Hw13 := Lib.hid (Hw12.out.trans (hb.out.mono Hw12.out.size)); have HsA13 := Lib.hid (HsA12.out.up hb.out); have HyA13 := Lib.hid (HyA12.out.up hb.out)
            clear hb HP12 HX12 HY12 HBk12 Hw12 HoA12 HsA12 HyA12 Hvo
            have hS : v13.heap[b8]? = some (.cells #[.int .u8 (so.d.x0 : Int), .int .u8 (so.d.x1 : Int), .int .u8 (so.d.x2 : Int), .int .u8 (so.d.x3 : Int), .int .u8 (so.d.x4 : Int), .int .u8 (so.d.x5 : Int), .int .u8 (so.d.x6 : Int), .int .u8 (so.d.x7 : Int), .int .i64 so.no, .int .i64 so.fe, .int .i64 so.ki, .slice so.A so.n so.c, .slice so.A' so.n' so.c'] 26 (0, 0)) ∧ v13.heap[b6]? = some (.cells #[.int .u8 (s.d.x0 : Int), .int .u8 (s.d.x1 : Int), .int .u8 (s.d.x2 : Int), .int .u8 (s.d.x3 : Int), .int .u8 (s.d.x4 : Int), .int .u8 (s.d.x5 : Int), .int .u8 (s.d.x6 : Int), .int .u8 (s.d.x7 : Int), .int .i64 s.no, .int .i64 s.fe, .int .i64 s.ki, .slice s.A s.n s.c, .slice s.A' s.n' s.c'] 26 (0, 0)) := ⟨HY13.out, HX13.out⟩
            have Hkeep : Hid (∀ u u' : World, Below u.heap.size u u' → v13.heap.size ≤ u.heap.size → (u.heap[b8]? = some (.cells #[.int .u8 (so.d.x0 : Int), .int .u8 (so.d.x1 : Int), .int .u8 (so.d.x2 : Int), .int .u8 (so.d.x3 : Int), .int .u8 (so.d.x4 : Int), .int .u8 (so.d.x5 : Int), .int .u8 (so.d.x6 : Int), .int .u8 (so.d.x7 : Int), .int .i64 so.no, .int .i64 so.fe, .int .i64 so.ki, .slice so.A so.n so.c, .slice so.A' so.n' so.c'] 26 (0, 0)) ∧ u.heap[b6]? = some (.cells #[.int .u8 (s.d.x0 : Int), .int .u8 (s.d.x1 : Int), .int .u8 (s.d.x2 : Int), .int .u8 (s.d.x3 : Int), .int .u8 (s.d.x4 : Int), .int .u8 (s.d.x5 : Int), .int .u8 (s.d.x6 : Int), .int .u8 (s.d.x7 : Int), .int .i64 s.no, .int .i64 s.fe, .int .i64 s.ki, .slice s.A s.n s.c, .slice s.A' s.n' s.c'] 26 (0, 0))) → (u'.heap[b8]? = some (.cells #[.int .u8 (so.d.x0 : Int), .int .u8 (so.d.x1 : Int), .int .u8 (so.d.x2 : Int), .int .u8 (so.d.x3 : Int), .int .u8 (so.d.x4 : Int), .int .u8 (so.d.x5 : Int), .int .u8 (so.d.x6 : Int), .int .u8 (so.d.x7 : Int), .int .i64 so.no, .int .i64 so.fe, .int .i64 so.ki, .slice so.A so.n so.c, .slice so.A' so.n' so.c'] 26 (0, 0)) ∧ u'.heap[b6]? = some (.cells #[.int .u8 (s.d.x0 : Int), .int .u8 (s.d.x1 : Int), .int .u8 (s.d.x2 : Int), .int .u8 (s.d.x3 : Int), .int .u8 (s.d.x4 : Int), .int .u8 (s.d.x5 : Int), .int .u8 (s.d.x6 : Int), .int .u8 (s.d.x7 : Int), .int .i64 s.no, .int .i64 s.fe, .int .i64 s.ki, .slice s.A s.n s.c, .slice s.A' s.n' s.c'] 26 (0, 0)))) := fun u u' hb _ h => ⟨block_below h.1 hb (block_lt h.1), block_below h.2 hb (block_lt h.2)⟩
            have Hcells : Hid (∀ u : World, (u.heap[b8]? = some (.cells #[.int .u8 (so.d.x0 : Int), .int .u8 (so.d.x1 : Int), .int .u8 (so.d.x2 : Int), .int .u8 (so.d.x3 : Int), .int .u8 (so.d.x4 : Int), .int .u8 (so.d.x5 : Int), .int .u8 (so.d.x6 : Int), .int .u8 (so.d.x7 : Int), .int .i64 so.no, .int .i64 so.fe, .int .i64 so.ki, .slice so.A so.n so.c, .slice so.A' so.n' so.c'] 26 (0, 0)) ∧ u.heap[b6]? = some (.cells #[.int .u8 (s.d.x0 : Int), .int .u8 (s.d.x1 : Int), .int .u8 (s.d.x2 : Int), .int .u8 (s.d.x3 : Int), .int .u8 (s.d.x4 : Int), .int .u8 (s.d.x5 : Int), .int .u8 (s.d.x6 : Int), .int .u8 (s.d.x7 : Int), .int .i64 s.no, .int .i64 s.fe, .int .i64 s.ki, .slice s.A s.n s.c, .slice s.A' s.n' s.c'] 26 (0, 0))) → (Instr.loadAt 26 (.pointer (some ⟨b8, 0, none⟩))).run Try.prog u = .ok (.agg #[.int .u8 (so.d.x0 : Int), .int .u8 (so.d.x1 : Int), .int .u8 (so.d.x2 : Int), .int .u8 (so.d.x3 : Int), .int .u8 (so.d.x4 : Int), .int .u8 (so.d.x5 : Int), .int .u8 (so.d.x6 : Int), .int .u8 (so.d.x7 : Int), .int .i64 so.no, .int .i64 so.fe, .int .i64 so.ki, .slice so.A so.n so.c, .slice so.A' so.n' so.c']) u ∧ (Instr.loadAt 26 (.pointer (some ⟨b6, 0, none⟩))).run Try.prog u = .ok (.agg #[.int .u8 (s.d.x0 : Int), .int .u8 (s.d.x1 : Int), .int .u8 (s.d.x2 : Int), .int .u8 (s.d.x3 : Int), .int .u8 (s.d.x4 : Int), .int .u8 (s.d.x5 : Int), .int .u8 (s.d.x6 : Int), .int .u8 (s.d.x7 : Int), .int .i64 s.no, .int .i64 s.fe, .int .i64 s.ki, .slice s.A s.n s.c, .slice s.A' s.n' s.c']) u) := fun u h => ⟨loadX h.1, loadX h.2⟩
            have hC1 : Hid (∀ u, so.At u → BookAt u (w2.heap.size + 2) (w2.heap.size + 1) w2.heap.size [⟨t'.d, qs⟩] → Calls Try.prog 31 #[.agg #[.int .u8 (so.d.x0 : Int), .int .u8 (so.d.x1 : Int), .int .u8 (so.d.x2 : Int), .int .u8 (so.d.x3 : Int), .int .u8 (so.d.x4 : Int), .int .u8 (so.d.x5 : Int), .int .u8 (so.d.x6 : Int), .int .u8 (so.d.x7 : Int), .int .i64 so.no, .int .i64 so.fe, .int .i64 so.ki, .slice so.A so.n so.c, .slice so.A' so.n' so.c'], .iface 57 (.pointer (some ⟨w2.heap.size + 1, 0, none⟩))] u fun e w' => e = .returned (.int .i64 want) ∧ Below u.heap.size u w') := fun u h1 h2 => by
              have := txverify_any so _ _ _ [⟨t'.d, qs⟩] u h1 h2 (by simp)
              rw [← Hwant.out] at this
              exact this
            have hC2 : Hid (∀ u, Calls Try.prog 31 #[.agg #[.int .u8 (s.d.x0 : Int), .int .u8 (s.d.x1 : Int), .int .u8 (s.d.x2 : Int), .int .u8 (s.d.x3 : Int), .int .u8 (s.d.x4 : Int), .int .u8 (s.d.x5 : Int), .int .u8 (s.d.x6 : Int), .int .u8 (s.d.x7 : Int), .int .i64 s.no, .int .i64 s.fe, .int .i64 s.ki, .slice s.A s.n s.c, .slice s.A' s.n' s.c'], .nilIface] u fun e w' => e = .returned (.int .i64 1) ∧ Below u.heap.size u w') := fun u => txverifyN_any s u
            have hC3 : Hid (∀ u B bk mb, s.At u → BookAt u B bk mb [] → Calls Try.prog 31 #[.agg #[.int .u8 (s.d.x0 : Int), .int .u8 (s.d.x1 : Int), .int .u8 (s.d.x2 : Int), .int .u8 (s.d.x3 : Int), .int .u8 (s.d.x4 : Int), .int .u8 (s.d.x5 : Int), .int .u8 (s.d.x6 : Int), .int .u8 (s.d.x7 : Int), .int .i64 s.no, .int .i64 s.fe, .int .i64 s.ki, .slice s.A s.n s.c, .slice s.A' s.n' s.c'], .iface 57 (.pointer (some ⟨bk, 0, none⟩))] u fun e w' => e = .returned (.int .i64 16) ∧ Below u.heap.size u w') := fun u B bk mb h1 h2 => by
              have := txverify_any s _ _ _ [] u h1 h2 (by simp)
              rw [Hver0.out] at this
              exact this
            have hq := (Below.refl v13.heap.size v13).drew
            have HSa := Lib.hid (Hkeep.out _ _ hq (Nat.le_refl _) hS)
            have HQa := Lib.hid hq
            have hSd := Hcells.out _ HSa.out
            have ew : (want == want) = true := by simp
            clear hS hq Hwant
            go_upto_region 20 with fail
            generalize Value.agg #[.int .u8 (so.d.x0 : Int), .int .u8 (so.d.x1 : Int), .int .u8 (so.d.x2 : Int), .int .u8 (so.d.x3 : Int), .int .u8 (so.d.x4 : Int), .int .u8 (so.d.x5 : Int), .int .u8 (so.d.x6 : Int), .int .u8 (so.d.x7 : Int), .int .i64 so.no, .int .i64 so.fe, .int .i64 so.ki, .slice so.A so.n so.c, .slice so.A' so.n' so.c'] = Vo at *
            generalize Value.agg #[.int .u8 (s.d.x0 : Int), .int .u8 (s.d.x1 : Int), .int .u8 (s.d.x2 : Int), .int .u8 (s.d.x3 : Int), .int .u8 (s.d.x4 : Int), .int .u8 (s.d.x5 : Int), .int .u8 (s.d.x6 : Int), .int .u8 (s.d.x7 : Int), .int .i64 s.no, .int .i64 s.fe, .int .i64 s.ki, .slice s.A s.n s.c, .slice s.A' s.n' s.c'] = Vs at *
            generalize Value.agg #[.int .u8 (t.d.x0 : Int), .int .u8 (t.d.x1 : Int), .int .u8 (t.d.x2 : Int), .int .u8 (t.d.x3 : Int), .int .u8 (t.d.x4 : Int), .int .u8 (t.d.x5 : Int), .int .u8 (t.d.x6 : Int), .int .u8 (t.d.x7 : Int), .int .i64 t.no, .int .i64 t.fe, .int .i64 t.ki, .slice t.A t.n t.c, .slice t.A' t.n' t.c'] = Vt at *
            generalize Value.agg #[.int .u8 (o.d.x0 : Int), .int .u8 (o.d.x1 : Int), .int .u8 (o.d.x2 : Int), .int .u8 (o.d.x3 : Int), .int .u8 (o.d.x4 : Int), .int .u8 (o.d.x5 : Int), .int .u8 (o.d.x6 : Int), .int .u8 (o.d.x7 : Int), .int .i64 o.no, .int .i64 o.fe, .int .i64 o.ki, .slice o.A o.n o.c, .slice o.A' o.n' o.c'] = Vt2 at *
            refine wp_region_held_drew (S := fun w' => (Instr.loadAt 26 (.pointer (some ⟨b8, 0, none⟩))).run Try.prog w' = .ok Vo w' ∧ (Instr.loadAt 26 (.pointer (some ⟨b6, 0, none⟩))).run Try.prog w' = .ok Vs w') (by kernel_rfl) hSd (fun hHeld => ?_)
            rw [show Array.replicate _ false = (#[false, false, false, false, false, false, false, false, false, false, false, false, false, false, false, false, false, false, false, false, false, false] : Array Bool) from rfl]
            refine wpAnyH_ready (rs := [0]) (by kernel_rfl) (by simp) ?_
            refine AllReadyH.cons rfl (fun K hK => ?_) AllReadyH.nil
            rw [if_pos (by kernel_rfl)]
            go_simp
            refine (known_any v13.drew).mono ?_
            rintro e v14 ⟨rfl, hb⟩
            have HSb := Lib.hid (Hkeep.out _ _ hb HQa.out.size HSa.out)
            have HQb := Lib.hid (HQa.out.trans (hb.mono HQa.out.size))
            have hSn := Hcells.out _ HSb.out
            refine hK.out _ _ hSn (fun _ => ?_)
            clear hK K hb
            simp only [List.setIfInBounds_toArray, List.set_cons_zero, List.set_cons_succ]
            refine takeH 1 (some 94) (v := ?_) rfl (by kernel_rfl) (by kernel_rfl) (by kernel_rfl) (by kernel_rfl) (fun _ _ _ h => h) (Or.inl ⟨by kernel_rfl, ?hy⟩) (by assumption) ?_
            case hy =>
              intro w' hSw
              clear hSw
              first
                | (go_simp; done)
                | (go_simp; with_reducible rfl)
            simp only [Act.put, List.setIfInBounds_toArray, List.set_cons_zero, List.set_cons_succ]
            refine takeH 2 (some 95) (v := Vo) rfl (by kernel_rfl) (by kernel_rfl) (by kernel_rfl) (by kernel_rfl) (fun _ _ _ h => h) (Or.inl ⟨by kernel_rfl, ?hy⟩) (by assumption) ?_
            case hy =>
              intro w' hSw
              try dsimp only at hSw
              obtain ⟨l1, l2⟩ := hSw
              simp [execOp, Act.eval, l1, Result.andThen]
            simp only [Act.put, List.setIfInBounds_toArray, List.set_cons_zero, List.set_cons_succ]
            refine takeH 3 (some 96) (v := ?_) rfl (by kernel_rfl) (by kernel_rfl) (by kernel_rfl) (by kernel_rfl) (fun _ _ _ h => h) (Or.inl ⟨by kernel_rfl, ?hy⟩) (by assumption) ?_
            case hy =>
              intro w' hSw
              clear hSw
              first
                | (go_simp; done)
                | (go_simp; with_reducible rfl)
            simp only [Act.put, List.setIfInBounds_toArray, List.set_cons_zero, List.set_cons_succ]
            refine takeH 4 (some 97) (v := ?_) rfl (by kernel_rfl) (by kernel_rfl) (by kernel_rfl) (by kernel_rfl) (fun _ _ _ h => h) (Or.inl ⟨by kernel_rfl, ?hy⟩) (by assumption) ?_
            case hy =>
              intro w' hSw
              clear hSw
              first
                | (go_simp; done)
                | (go_simp; with_reducible rfl)
            simp only [Act.put, List.setIfInBounds_toArray, List.set_cons_zero, List.set_cons_succ]
            refine takeH 6 (some 99) (v := ?_) rfl (by kernel_rfl) (by kernel_rfl) (by kernel_rfl) (by kernel_rfl) (fun _ _ _ h => h) (Or.inl ⟨by kernel_rfl, ?hy⟩) (by assumption) ?_
            case hy =>
              intro w' hSw
              clear hSw
              first
                | (go_simp; done)
                | (go_simp; with_reducible rfl)
            simp only [Act.put, List.setIfInBounds_toArray, List.set_cons_zero, List.set_cons_succ]
            refine wpAnyH_ready (rs := [5]) (by kernel_rfl) (by simp) ?_
            refine AllReadyH.cons rfl (fun K hK => ?_) AllReadyH.nil
            rw [if_pos (by kernel_rfl)]
            go_simp
            refine (hC1.out v14 (HyA13.out.up HQb.out) (HBk13.out.below HQb.out)).mono ?_
            rintro e v15 ⟨rfl, hb⟩
            have HSc := Lib.hid (Hkeep.out _ _ hb HQb.out.size HSb.out)
            have HQc := Lib.hid (HQb.out.trans (hb.mono HQb.out.size))
            have hSn := Hcells.out _ HSc.out
            refine hK.out _ _ hSn (fun _ => ?_)
            clear hK K hb
            simp only [List.setIfInBounds_toArray, List.set_cons_zero, List.set_cons_succ]
            refine takeH 7 (some 100) (v := ?_) rfl (by kernel_rfl) (by kernel_rfl) (by kernel_rfl) (by kernel_rfl) (fun _ _ _ h => h) (Or.inl ⟨by kernel_rfl, ?hy⟩) (by assumption) ?_
            case hy =>
              intro w' hSw
              clear hSw
              first
                | (go_simp; done)
                | (go_simp; with_reducible rfl)
            simp only [Act.put, List.setIfInBounds_toArray, List.set_cons_zero, List.set_cons_succ]
            refine takeH 8 (some 101) (v := ?_) rfl (by kernel_rfl) (by kernel_rfl) (by kernel_rfl) (by kernel_rfl) (fun _ _ _ h => h) (Or.inl ⟨by kernel_rfl, ?hy⟩) (by assumption) ?_
            case hy =>
              intro w' hSw
              clear hSw
              first
                | (go_simp; done)
                | (go_simp; with_reducible rfl)
            simp only [Act.put, List.setIfInBounds_toArray, List.set_cons_zero, List.set_cons_succ]
            refine takeH 9 (some 102) (v := ?_) rfl (by kernel_rfl) (by kernel_rfl) (by kernel_rfl) (by kernel_rfl) (fun _ _ _ h => h) (Or.inl ⟨by kernel_rfl, ?hy⟩) (by assumption) ?_
            case hy =>
              intro w' hSw
              clear hSw
              first
                | (go_simp; done)
                | (go_simp; with_reducible rfl)
            simp only [Act.put, List.setIfInBounds_toArray, List.set_cons_zero, List.set_cons_succ]
            refine takeH 10 (some 103) (v := Vs) rfl (by kernel_rfl) (by kernel_rfl) (by kernel_rfl) (by kernel_rfl) (fun _ _ _ h => h) (Or.inl ⟨by kernel_rfl, ?hy⟩) (by assumption) ?_
            case hy =>
              intro w' hSw
              try dsimp only at hSw
              obtain ⟨l1, l2⟩ := hSw
              simp [execOp, Act.eval, l2, Result.andThen]
            simp only [Act.put, List.setIfInBounds_toArray, List.set_cons_zero, List.set_cons_succ]
            refine wpAnyH_ready (rs := [11]) (by kernel_rfl) (by simp) ?_
            refine AllReadyH.cons rfl (fun K hK => ?_) AllReadyH.nil
            rw [if_pos (by kernel_rfl)]
            go_simp
            refine (hC2.out v15).mono ?_
            rintro e v16 ⟨rfl, hb⟩
            have HSd := Lib.hid (Hkeep.out _ _ hb HQc.out.size HSc.out)
            have HQd := Lib.hid (HQc.out.trans (hb.mono HQc.out.size))
            have hSn := Hcells.out _ HSd.out
            refine hK.out _ _ hSn (fun _ => ?_)
            clear hK K hb
            simp only [List.setIfInBounds_toArray, List.set_cons_zero, List.set_cons_succ]
            refine takeH 12 (some 105) (v := ?_) rfl (by kernel_rfl) (by kernel_rfl) (by kernel_rfl) (by kernel_rfl) (fun _ _ _ h => h) (Or.inl ⟨by kernel_rfl, ?hy⟩) (by assumption) ?_
            case hy =>
              intro w' hSw
              clear hSw
              first
                | (go_simp; done)
                | (go_simp; with_reducible rfl)
            simp only [Act.put, List.setIfInBounds_toArray, List.set_cons_zero, List.set_cons_succ]
            refine takeH 13 (some 106) (v := ?_) rfl (by kernel_rfl) (by kernel_rfl) (by kernel_rfl) (by kernel_rfl) (fun _ _ _ h => h) (Or.inl ⟨by kernel_rfl, ?hy⟩) (by assumption) ?_
            case hy =>
              intro w' hSw
              clear hSw
              first
                | (go_simp; done)
                | (go_simp; with_reducible rfl)
            simp only [Act.put, List.setIfInBounds_toArray, List.set_cons_zero, List.set_cons_succ]
            refine takeH 14 (some 107) (v := ?_) rfl (by kernel_rfl) (by kernel_rfl) (by kernel_rfl) (by kernel_rfl) (fun _ _ _ h => h) (Or.inl ⟨by kernel_rfl, ?hy⟩) (by assumption) ?_
            case hy =>
              intro w' hSw
              clear hSw
              first
                | (go_simp; done)
                | (go_simp; with_reducible rfl)
            simp only [Act.put, List.setIfInBounds_toArray, List.set_cons_zero, List.set_cons_succ]
            refine takeH 15 (some 108) (v := Vs) rfl (by kernel_rfl) (by kernel_rfl) (by kernel_rfl) (by kernel_rfl) (fun _ _ _ h => h) (Or.inl ⟨by kernel_rfl, ?hy⟩) (by assumption) ?_
            case hy =>
              intro w' hSw
              try dsimp only at hSw
              obtain ⟨l1, l2⟩ := hSw
              simp [execOp, Act.eval, l2, Result.andThen]
            simp only [Act.put, List.setIfInBounds_toArray, List.set_cons_zero, List.set_cons_succ]
            refine wpAnyH_ready (rs := [16]) (by kernel_rfl) (by simp) ?_
            refine AllReadyH.cons rfl (fun K hK => ?_) AllReadyH.nil
            rw [if_pos (by kernel_rfl)]
            go_simp
            refine (newBook_any v16).mono ?_
            rintro e v17 ⟨rfl, hB, hb⟩
            have HB17 := Lib.hid hB
            clear hB
            have HSe := Lib.hid (Hkeep.out _ _ hb HQd.out.size HSd.out)
            have HQe := Lib.hid (HQd.out.trans (hb.mono HQd.out.size))
            have hSn := Hcells.out _ HSe.out
            refine hK.out _ _ hSn (fun _ => ?_)
            clear hK K hb
            simp only [List.setIfInBounds_toArray, List.set_cons_zero, List.set_cons_succ]
            refine takeH 17 (some 110) (v := ?_) rfl (by kernel_rfl) (by kernel_rfl) (by kernel_rfl) (by kernel_rfl) (fun _ _ _ h => h) (Or.inl ⟨by kernel_rfl, ?hy⟩) (by assumption) ?_
            case hy =>
              intro w' hSw
              clear hSw
              first
                | (go_simp; done)
                | (go_simp; with_reducible rfl)
            simp only [Act.put, List.setIfInBounds_toArray, List.set_cons_zero, List.set_cons_succ]
            refine wpAnyH_ready (rs := [18]) (by kernel_rfl) (by simp) ?_
            refine AllReadyH.cons rfl (fun K hK => ?_) AllReadyH.nil
            rw [if_pos (by kernel_rfl)]
            go_simp
            refine (hC3.out v17 _ _ _ (HsA13.out.up HQe.out) HB17.out).mono ?_
            rintro e v18 ⟨rfl, hb⟩
            have HSf := Lib.hid (Hkeep.out _ _ hb HQe.out.size HSe.out)
            have HQf := Lib.hid (HQe.out.trans (hb.mono HQe.out.size))
            have hSn := Hcells.out _ HSf.out
            refine hK.out _ _ hSn (fun _ => ?_)
            clear hK K hb
            simp only [List.setIfInBounds_toArray, List.set_cons_zero, List.set_cons_succ]
            refine takeH 19 (some 112) (v := ?_) rfl (by kernel_rfl) (by kernel_rfl) (by kernel_rfl) (by kernel_rfl) (fun _ _ _ h => h) (Or.inl ⟨by kernel_rfl, ?hy⟩) (by assumption) ?_
            case hy =>
              intro w' hSw
              clear hSw
              first
                | (go_simp; done)
                | (go_simp; with_reducible rfl)
            simp only [Act.put, List.setIfInBounds_toArray, List.set_cons_zero, List.set_cons_succ]
            refine takeH 20 (some 113) (v := ?_) rfl (by kernel_rfl) (by kernel_rfl) (by kernel_rfl) (by kernel_rfl) (fun _ _ _ h => h) (Or.inl ⟨by kernel_rfl, ?hy⟩) (by assumption) ?_
            case hy =>
              intro w' hSw
              clear hSw
              first
                | (go_simp; done)
                | (go_simp; with_reducible rfl)
            simp only [Act.put, List.setIfInBounds_toArray, List.set_cons_zero, List.set_cons_succ]
            refine takeH 21 (some 4) (v := ?_) rfl (by kernel_rfl) (by kernel_rfl) (by kernel_rfl) (by kernel_rfl) (fun _ _ _ h => h) (Or.inl ⟨by kernel_rfl, ?hy⟩) (by assumption) ?_
            case hy =>
              intro w' hSw
              clear hSw
              first
                | (go_simp; done)
                | (go_simp; with_reducible rfl)
            simp only [Act.put, List.setIfInBounds_toArray, List.set_cons_zero, List.set_cons_succ]
            refine wpAnyH_done (by kernel_rfl) ?_ _
            go_wp2
            go_ret
            exact ⟨rfl, Hw13.out.trans (HQf.out.mono Hw13.out.size)⟩
      · have e1 : (err != 0) = true := by simpa using he
        obtain ⟨hck, (⟨h0, _⟩ | ⟨_, ho, hL⟩)⟩ := HSo.out
        · exact absurd h0 he
        subst ho hL
        have Hck := Lib.hid hck
        clear hck HSo HsA HsO HX HBk HO Hot
        obtain ⟨y0, y1, y2, y3, y4, y5, y6, y7, y8, y9, y10, y11, y12⟩ := HT.out.all
        go_wp2_with fail
        refine (known_any wc).mono ?_
        rintro e v1 ⟨rfl, hb⟩
        have HT1 := Lib.hid (HT.out.below hb); have Hat1 := Lib.hid (Hat.out.keep (hb.mono Hw.out.size) (Nat.le_refl _)); have Hw1 := Lib.hid (Hw.out.trans (hb.mono Hw.out.size))
        clear hb y0 y1 y2 y3 y4 y5 y6 y7 y8 y9 y10 y11 y12 HT Hat Hw
        obtain ⟨y0, y1, y2, y3, y4, y5, y6, y7, y8, y9, y10, y11, y12⟩ := HT1.out.all
        go_wp2_with fail
        refine (of_any t' v1).mono ?_
        rintro e v2 ⟨rfl, hb⟩
        have HT2 := Lib.hid (HT1.out.below hb); have Hat2 := Lib.hid (Hat1.out.keep (hb.mono Hw1.out.size) (Nat.le_refl _)); have Hw2 := Lib.hid (Hw1.out.trans (hb.mono Hw1.out.size))
        clear hb y0 y1 y2 y3 y4 y5 y6 y7 y8 y9 y10 y11 y12 HT1 Hat1 Hw1
        obtain ⟨y0, y1, y2, y3, y4, y5, y6, y7, y8, y9, y10, y11, y12⟩ := HT2.out.all
        go_wp2_with fail
        refine (checkr_any t' v2 (Hat2.out.at Hw2.out.size)).mono ?_
        rintro e v3 ⟨rfl, hb⟩
        have HT3 := Lib.hid (HT2.out.below hb); have Hat3 := Lib.hid (Hat2.out.keep (hb.mono Hw2.out.size) (Nat.le_refl _)); have Hw3 := Lib.hid (Hw2.out.trans (hb.mono Hw2.out.size))
        clear hb y0 y1 y2 y3 y4 y5 y6 y7 y8 y9 y10 y11 y12 HT2 Hat2 Hw2
        obtain ⟨y0, y1, y2, y3, y4, y5, y6, y7, y8, y9, y10, y11, y12⟩ := HT3.out.all
        by_cases hc : checkT t'.no t'.fe t'.ki t'.bo t'.si = 0
        · rw [hc]
          have hn : 0 < t'.n' := by
            rcases Nat.eq_zero_or_pos t'.n' with h0 | h0
            · have := (Hat3.out.at Hw3.out.size).len2
              have hsi : t'.si = [] := List.length_eq_zero_iff.1 (by omega)
              rw [hsi] at hc
              exact absurd (Hck.out.trans hc) he
            · exact h0
          have hn2 : decide ((0 : Int) < (t'.n' : Int)) = true := decide_eq_true (by omega)
          have hn3 : decide (0 < t'.n') = true := decide_eq_true hn
          clear he hc
          go_wp2
          go_ret
          exact ⟨rfl, Hw3.out⟩
        · have e3 : (checkT t'.no t'.fe t'.ki t'.bo t'.si != 0) = true := by simpa using hc
          generalize checkT t'.no t'.fe t'.ki t'.bo t'.si = c at *
          clear he
          go_wp2
          go_ret
          exact ⟨rfl, Hw3.out⟩
end Go.Proofs.Ytebepgoaofhelaa
