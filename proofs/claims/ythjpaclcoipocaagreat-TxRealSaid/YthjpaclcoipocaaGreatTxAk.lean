/- Whether a transaction is signed, by a book: the walk of Verify. Conditions: bounds on the bytes. -/
import Derived.Test.YthjpaclcoipocaaGreatJoinZ
import Derived.Test.YthjpaclcoipocaaGreatJoinM
namespace Go.Proofs.YthjpaclcoipocaaGreat
open Go.RowKit Go.Lib


theorem nil_verT (b : Nat) (w : World) : (nilAhead (Tryz.prog.types.size + Made.depth) 41 (.pointer (some ⟨b, 0, none⟩)) "Verify").run Tryz.prog w = .ok (some false) w := by kernel_rfl
theorem meth_verT (b : Nat) (w : World) : (method (Tryz.prog.types.size + Made.depth) 41 (.pointer (some ⟨b, 0, none⟩)) "Verify").run Tryz.prog w = .ok (105, .pointer (some ⟨b, 0, none⟩)) w := by kernel_rfl
def verT (L : List En) (t : TxV) : Int := if checkT t.no t.fe t.ki t.bo t.si = 0 then (if verS L ⟨t.d, askedT t.d t.no t.fe t.ki t.bo⟩ t.si then 0 else 16) else checkT t.no t.fe t.ki t.bo t.si
theorem cellT {w w' : World} {B b j : Nat} {v : Value} (h : w.cell? ⟨b, j, none⟩ = some v) (hb : Below B w w') (hl : b < B) : w'.cell? ⟨b, j, none⟩ = some v := (World.cell?_of_block (hb.block b hl)).trans h
set_option maxRecDepth 100000 in
set_option maxHeartbeats 4000000 in
theorem txverify_any (t : TxV) (B bk mb : Nat) (L : List En) (w : World) (h : t.At w) (hB : BookAt w B bk mb L) (hlen : L.length < 60000) : Calls Tryz.prog 8 #[.agg #[.int .u8 (t.d.x0 : Int), .int .u8 (t.d.x1 : Int), .int .u8 (t.d.x2 : Int), .int .u8 (t.d.x3 : Int), .int .u8 (t.d.x4 : Int), .int .u8 (t.d.x5 : Int), .int .u8 (t.d.x6 : Int), .int .u8 (t.d.x7 : Int), .int .i64 t.no, .int .i64 t.fe, .int .i64 t.ki, .slice t.A t.n t.c, .slice t.A' t.n' t.c'], .iface 41 (.pointer (some ⟨bk, 0, none⟩))] w fun e w' => e = .returned (.int .i64 (verT L t)) ∧ Below w.heap.size w w' := by
  have hna := nil_verT bk
  have hme := meth_verT bk
  rw [types_manyT] at hna hme
  have hb0 := h_one w (.cells #[.int .u8 (t.d.x0 : Int), .int .u8 (t.d.x1 : Int), .int .u8 (t.d.x2 : Int), .int .u8 (t.d.x3 : Int), .int .u8 (t.d.x4 : Int), .int .u8 (t.d.x5 : Int), .int .u8 (t.d.x6 : Int), .int .u8 (t.d.x7 : Int), .int .i64 t.no, .int .i64 t.fe, .int .i64 t.ki, .slice t.A t.n t.c, .slice t.A' t.n' t.c'] 32)
  have H0 := Lib.hid (h.up hb0)
  have HT : Hid (Box t (w.alloc (.cells #[.int .u8 (t.d.x0 : Int), .int .u8 (t.d.x1 : Int), .int .u8 (t.d.x2 : Int), .int .u8 (t.d.x3 : Int), .int .u8 (t.d.x4 : Int), .int .u8 (t.d.x5 : Int), .int .u8 (t.d.x6 : Int), .int .u8 (t.d.x7 : Int), .int .i64 t.no, .int .i64 t.fe, .int .i64 t.ki, .slice t.A t.n t.c, .slice t.A' t.n' t.c'] 32)) w.heap.size) := heap_alloc_new w (.cells #[.int .u8 (t.d.x0 : Int), .int .u8 (t.d.x1 : Int), .int .u8 (t.d.x2 : Int), .int .u8 (t.d.x3 : Int), .int .u8 (t.d.x4 : Int), .int .u8 (t.d.x5 : Int), .int .u8 (t.d.x6 : Int), .int .u8 (t.d.x7 : Int), .int .i64 t.no, .int .i64 t.fe, .int .i64 t.ki, .slice t.A t.n t.c, .slice t.A' t.n' t.c'] 32)
  have Hb0 := Lib.hid hb0
  have Hz0 : Hid ((w.alloc (.cells #[.int .u8 (t.d.x0 : Int), .int .u8 (t.d.x1 : Int), .int .u8 (t.d.x2 : Int), .int .u8 (t.d.x3 : Int), .int .u8 (t.d.x4 : Int), .int .u8 (t.d.x5 : Int), .int .u8 (t.d.x6 : Int), .int .u8 (t.d.x7 : Int), .int .i64 t.no, .int .i64 t.fe, .int .i64 t.ki, .slice t.A t.n t.c, .slice t.A' t.n' t.c'] 32)).heap.size = w.heap.size + 1) := Lib.hid (by simp)
  have HB0 := Lib.hid (hB.below hb0)
  have Hlen := Lib.hid hlen
  have Hb2 := Lib.hid h.b2; have Hd := Lib.hid h.ok; have Hm2 := Lib.hid h.m2
  clear h hb0 hB hlen
  obtain ⟨y0, y1, y2, y3, y4, y5, y6, y7, y8, y9, y10, y11, y12⟩ := HT.out.all
  have Hv : Hid (verT L t = if checkT t.no t.fe t.ki t.bo t.si = 0 then (if verS L ⟨t.d, askedT t.d t.no t.fe t.ki t.bo⟩ t.si then 0 else 16) else checkT t.no t.fe t.ki t.bo t.si) := rfl
  go_enter Tryz.func8, Tryz.ntmps8
  go_wp2_with fail
  refine (tcheck_any t _ H0.out).mono ?_
  rintro e w1 ⟨rfl, hb1⟩
  have HT1 : Hid (Box t w1 w.heap.size) := Lib.hid (HT.out.below hb1)
  have Hb1 := Lib.hid (Hb0.out.trans (hb1.mono Hb0.out.size)); have H1 := Lib.hid (H0.out.up hb1); have HB1 := Lib.hid (HB0.out.below hb1)
  clear hb1 y0 y1 y2 y3 y4 y5 y6 y7 y8 y9 y10 y11 y12 HT Hb0 H0 HB0
  generalize checkT t.no t.fe t.ki t.bo t.si = ck at *
  by_cases hck : ck = 0
  · have e1 : (ck != 0) = false := by simp [hck]
    rw [if_pos hck] at Hv
    clear hck
    go_wp2_with fail
    have hz := block_lt HT1.out
    have hS := HT1.out
    have hS' : w1.heap[w.heap.size]? = some (.cells #[.int .u8 (t.d.x0 : Int), .int .u8 (t.d.x1 : Int), .int .u8 (t.d.x2 : Int), .int .u8 (t.d.x3 : Int), .int .u8 (t.d.x4 : Int), .int .u8 (t.d.x5 : Int), .int .u8 (t.d.x6 : Int), .int .u8 (t.d.x7 : Int), .int .i64 t.no, .int .i64 t.fe, .int .i64 t.ki, .slice t.A t.n t.c, .slice t.A' t.n' t.c'] 32 (0, 0)) := hS
    refine wp_region_held_drew (S := fun w' => w'.heap[w.heap.size]? = some (.cells #[.int .u8 (t.d.x0 : Int), .int .u8 (t.d.x1 : Int), .int .u8 (t.d.x2 : Int), .int .u8 (t.d.x3 : Int), .int .u8 (t.d.x4 : Int), .int .u8 (t.d.x5 : Int), .int .u8 (t.d.x6 : Int), .int .u8 (t.d.x7 : Int), .int .i64 t.no, .int .i64 t.fe, .int .i64 t.ki, .slice t.A t.n t.c, .slice t.A' t.n' t.c'] 32 (0, 0))) (by kernel_rfl) hS' (fun hHeld => ?_)
    refine takeH 0 (some 13) (v := ?_) rfl (by kernel_rfl) (by kernel_rfl) (by kernel_rfl) (by kernel_rfl) (fun _ _ _ h => h) (Or.inl ⟨by kernel_rfl, ?hy⟩) (by assumption) ?_
    case hy =>
      intro w' hSw
      try dsimp only at hSw
      first
        | (go_simp; done)
        | (go_simp; with_reducible rfl)
    simp only [Act.put, List.setIfInBounds_toArray, List.set_cons_zero, List.set_cons_succ]
    refine takeH 1 (some 14) (v := ?_) rfl (by kernel_rfl) (by kernel_rfl) (by kernel_rfl) (by kernel_rfl) (fun _ _ _ h => h) (Or.inl ⟨by kernel_rfl, ?hy⟩) (by assumption) ?_
    case hy =>
      intro w' hSw
      try dsimp only at hSw
      first
        | (go_simp; done)
        | (go_simp; with_reducible rfl)
    simp only [Act.put, List.setIfInBounds_toArray, List.set_cons_zero, List.set_cons_succ]
    refine takeH 2 (some 15) (v := ?_) rfl (by kernel_rfl) (by kernel_rfl) (by kernel_rfl) (by kernel_rfl) (fun _ _ _ h => h) (Or.inl ⟨by kernel_rfl, ?hy⟩) (by assumption) ?_
    case hy =>
      intro w' hSw
      try dsimp only at hSw
      have x := block_cell hSw
      have x0 := x 0; have x1 := x 1; have x2 := x 2; have x3 := x 3; have x4 := x 4; have x5 := x 5; have x6 := x 6; have x7 := x 7; have x8 := x 8; have x9 := x 9; have x10 := x 10; have x11 := x 11; have x12 := x 12
      simp at x0 x1 x2 x3 x4 x5 x6 x7 x8 x9 x10 x11 x12
      clear x hSw
      first
        | (go_simp; done)
        | (go_simp; with_reducible rfl)
    simp only [Act.put, List.setIfInBounds_toArray, List.set_cons_zero, List.set_cons_succ]
    refine takeH 3 (some 16) (v := ?_) rfl (by kernel_rfl) (by kernel_rfl) (by kernel_rfl) (by kernel_rfl) (fun _ _ _ h => h) (Or.inl ⟨by kernel_rfl, ?hy⟩) (by assumption) ?_
    case hy =>
      intro w' hSw
      try dsimp only at hSw
      have x := block_cell hSw
      have x0 := x 0; have x1 := x 1; have x2 := x 2; have x3 := x 3; have x4 := x 4; have x5 := x 5; have x6 := x 6; have x7 := x 7; have x8 := x 8; have x9 := x 9; have x10 := x 10; have x11 := x 11; have x12 := x 12
      simp at x0 x1 x2 x3 x4 x5 x6 x7 x8 x9 x10 x11 x12
      clear x hSw
      first
        | (go_simp; done)
        | (go_simp; with_reducible rfl)
    simp only [Act.put, List.setIfInBounds_toArray, List.set_cons_zero, List.set_cons_succ]
    refine takeH 5 (some 18) (v := ?_) rfl (by kernel_rfl) (by kernel_rfl) (by kernel_rfl) (by kernel_rfl) (fun _ _ _ h => h) (Or.inl ⟨by kernel_rfl, ?hy⟩) (by assumption) ?_
    case hy =>
      intro w' hSw
      try dsimp only at hSw
      first
        | (go_simp; done)
        | (go_simp; with_reducible rfl)
    simp only [Act.put, List.setIfInBounds_toArray, List.set_cons_zero, List.set_cons_succ]
    refine takeH 6 (some 19) (v := ?_) rfl (by kernel_rfl) (by kernel_rfl) (by kernel_rfl) (by kernel_rfl) (fun _ _ _ h => h) (Or.inl ⟨by kernel_rfl, ?hy⟩) (by assumption) ?_
    case hy =>
      intro w' hSw
      try dsimp only at hSw
      have x := block_cell hSw
      have x0 := x 0; have x1 := x 1; have x2 := x 2; have x3 := x 3; have x4 := x 4; have x5 := x 5; have x6 := x 6; have x7 := x 7; have x8 := x 8; have x9 := x 9; have x10 := x 10; have x11 := x 11; have x12 := x 12
      simp at x0 x1 x2 x3 x4 x5 x6 x7 x8 x9 x10 x11 x12
      clear x hSw
      first
        | (go_simp; done)
        | (go_simp; with_reducible rfl)
    simp only [Act.put, List.setIfInBounds_toArray, List.set_cons_zero, List.set_cons_succ]
    refine takeH 8 (some 21) (v := ?_) rfl (by kernel_rfl) (by kernel_rfl) (by kernel_rfl) (by kernel_rfl) (fun _ _ _ h => h) (Or.inl ⟨by kernel_rfl, ?hy⟩) (by assumption) ?_
    case hy =>
      intro w' hSw
      try dsimp only at hSw
      first
        | (go_simp; done)
        | (go_simp; with_reducible rfl)
    simp only [Act.put, List.setIfInBounds_toArray, List.set_cons_zero, List.set_cons_succ]
    refine takeH 9 (some 22) (v := ?_) rfl (by kernel_rfl) (by kernel_rfl) (by kernel_rfl) (by kernel_rfl) (fun _ _ _ h => h) (Or.inl ⟨by kernel_rfl, ?hy⟩) (by assumption) ?_
    case hy =>
      intro w' hSw
      try dsimp only at hSw
      first
        | (go_simp; done)
        | (go_simp; with_reducible rfl)
    simp only [Act.put, List.setIfInBounds_toArray, List.set_cons_zero, List.set_cons_succ]
    refine takeH 10 (some 23) (v := ?_) rfl (by kernel_rfl) (by kernel_rfl) (by kernel_rfl) (by kernel_rfl) (fun _ _ _ h => h) (Or.inl ⟨by kernel_rfl, ?hy⟩) (by assumption) ?_
    case hy =>
      intro w' hSw
      try dsimp only at hSw
      first
        | (go_simp; done)
        | (go_simp; with_reducible rfl)
    simp only [Act.put, List.setIfInBounds_toArray, List.set_cons_zero, List.set_cons_succ]
    refine wpAnyH_ready (rs := [4]) (by kernel_rfl) (by simp) ?_
    refine AllReadyH.cons rfl (fun K hK => ?_) AllReadyH.nil
    rw [if_pos (by kernel_rfl)]
    go_simp
    refine (asked_any t w1.drew (H1.out.up (Below.refl _ _).drew)).mono ?_
    rintro e w2 ⟨rfl, hb⟩
    have Hqo : Hid ((askedT t.d t.no t.fe t.ki t.bo).ok) := hashWord_ok _ _
    generalize askedT t.d t.no t.fe t.ki t.bo = qd at *
    have hq := (Below.refl w1.heap.size w1).drew.trans hb
    have hS2 := block_below hS' hq hz
    have Hb2' := Lib.hid (Hb1.out.trans (hq.mono Hb1.out.size)); have H2 := Lib.hid (H1.out.up hq); have HB2 := Lib.hid (HB1.out.below hq)
    refine hK.out _ _ hS2 (fun _ => ?_)
    clear hK K hb hq
    refine wpAnyH_ready (rs := [7]) (by kernel_rfl) (by simp) ?_
    refine AllReadyH.cons rfl (fun K hK => ?_) AllReadyH.nil
    rw [if_pos (by kernel_rfl)]
    go_simp
    refine (clone_any t.A' t.n' t.c' t.si w2 H2.out.r2 (by have := Hm2.out; omega)).mono ?_
    rintro e w3 ⟨A3, n3, c3, rfl, ho, hn3, hb⟩
    have hS3 := block_below hS2 hb (block_lt hS2)
    have Hb3 := Lib.hid (Hb2'.out.trans (hb.mono Hb2'.out.size)); have HB3 := Lib.hid (HB2.out.below hb); have Hr3 : Hid (Rd w3 w3.heap.size 1 A3 n3 (bvN t.si)) := Rd.of_own ho
    refine hK.out _ _ hS3 (fun _ => ?_)
    clear hK K hb ho hn3
    refine wpAnyH_ready (rs := [11]) (by kernel_rfl) (by simp) ?_
    refine AllReadyH.cons rfl (fun K hK => ?_) AllReadyH.nil
    rw [if_pos (by kernel_rfl)]
    go_simp
    refine (bverify_any _ _ _ _ ⟨t.d, qd⟩ A3 n3 c3 t.si w3 HB3.out ⟨Hd.out, Hqo.out⟩ Hlen.out Hr3.out Hb2.out).mono ?_
    rintro e w4 ⟨rfl, hb⟩
    have hS4 := block_below hS3 hb (block_lt hS3)
    have Hb4 := Lib.hid (Hb3.out.trans (hb.mono Hb3.out.size))
    refine hK.out _ _ hS4 (fun _ => ?_)
    clear hK K hb
    generalize verS L ⟨t.d, qd⟩ t.si = vb at *
    refine takeH 12 (some 25) (v := ?_) rfl (by kernel_rfl) (by kernel_rfl) (by kernel_rfl) (by kernel_rfl) (fun _ _ _ h => h) (Or.inl ⟨by kernel_rfl, ?hy⟩) (by assumption) ?_
    case hy =>
      intro w' hSw
      try dsimp only at hSw
      first
        | (go_simp; done)
        | (go_simp; with_reducible rfl)
    simp only [Act.put, List.setIfInBounds_toArray, List.set_cons_zero, List.set_cons_succ]
    refine wpAnyH_done (by kernel_rfl) ?_ _
    cases vb with
    | true =>
      go_wp2
      go_ret
      exact ⟨by rw [Hv.out]; rfl, Hb4.out⟩
    | false =>
      go_wp2
      go_ret
      exact ⟨by rw [Hv.out]; rfl, Hb4.out⟩
  · have e1 : (ck != 0) = true := by simpa using hck
    rw [if_neg hck] at Hv
    clear hck
    go_wp2
    go_ret
    exact ⟨by rw [Hv.out]; rfl, Hb1.out⟩
set_option maxRecDepth 100000 in
theorem txverifyN_any (t : TxV) (w : World) : Calls Tryz.prog 8 #[.agg #[.int .u8 (t.d.x0 : Int), .int .u8 (t.d.x1 : Int), .int .u8 (t.d.x2 : Int), .int .u8 (t.d.x3 : Int), .int .u8 (t.d.x4 : Int), .int .u8 (t.d.x5 : Int), .int .u8 (t.d.x6 : Int), .int .u8 (t.d.x7 : Int), .int .i64 t.no, .int .i64 t.fe, .int .i64 t.ki, .slice t.A t.n t.c, .slice t.A' t.n' t.c'], .nilIface] w fun e w' => e = .returned (.int .i64 1) ∧ Below w.heap.size w w' := by
  go_enter Tryz.func8, Tryz.ntmps8
  go_wp2
  go_ret
  exact ⟨rfl, h_one w _⟩
end Go.Proofs.YthjpaclcoipocaaGreat
