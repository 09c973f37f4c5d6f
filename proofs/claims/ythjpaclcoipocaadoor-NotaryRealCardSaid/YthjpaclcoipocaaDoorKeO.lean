/- The start of a chain, and what a key of one chain is: the walks of start and of Public's function. Condition: bounds on the chain's number. -/
import Derived.Test.YthjpaclcoipocaaDoorKeH
import Derived.Test.YthjpaclcoipocaaDoorInv
namespace Go.Proofs.YthjpaclcoipocaaDoor
open Go.RowKit Go.Lib



def startD (d : D8) (c : Nat) : D8 := hashTwo d (D8.of c)
theorem startD_ok (d : D8) (c : Nat) : (startD d c).ok := hs_ok _
set_option maxRecDepth 100000 in
set_option maxHeartbeats 2000000 in
theorem start_any (d : D8) (c : Nat) (w : World) (hd : d.ok) (hc : c < 1000000) :
    Calls Tryd.prog 28 #[.agg #[.int .u8 (d.x0 : Int), .int .u8 (d.x1 : Int), .int .u8 (d.x2 : Int), .int .u8 (d.x3 : Int), .int .u8 (d.x4 : Int), .int .u8 (d.x5 : Int), .int .u8 (d.x6 : Int), .int .u8 (d.x7 : Int)], .int .i64 (c : Int)] w fun e w' => e = .returned (.agg #[.int .u8 ((startD d c).x0 : Int), .int .u8 ((startD d c).x1 : Int), .int .u8 ((startD d c).x2 : Int), .int .u8 ((startD d c).x3 : Int), .int .u8 ((startD d c).x4 : Int), .int .u8 ((startD d c).x5 : Int), .int .u8 ((startD d c).x6 : Int), .int .u8 ((startD d c).x7 : Int)]) ∧ Below w.heap.size w w' := by
  obtain ⟨hd0, hx0, hw0, hz0⟩ := alloc2 w (.cells #[.int .u8 (d.x0 : Int), .int .u8 (d.x1 : Int), .int .u8 (d.x2 : Int), .int .u8 (d.x3 : Int), .int .u8 (d.x4 : Int), .int .u8 (d.x5 : Int), .int .u8 (d.x6 : Int), .int .u8 (d.x7 : Int)] 31) (.cells #[.int .u8 0, .int .u8 0, .int .u8 0, .int .u8 0, .int .u8 0, .int .u8 0, .int .u8 0, .int .u8 0] 31)
  have Hd := Lib.hid hd
  have H0 := Lib.hid hd0; have HX0 := Lib.hid hx0; have Hw0 := Lib.hid hw0
  have hw64 : IntKind.u64.wrap (c : Int) = (c : Int) := by rw [IntKind.wrap_u64]; omega
  clear hd hd0 hx0 hw0 hz0
  go_enter Tryd.func28, Tryd.ntmps28
  go_upto_region 1 with fail
  generalize (w.alloc (.cells #[.int .u8 (d.x0 : Int), .int .u8 (d.x1 : Int), .int .u8 (d.x2 : Int), .int .u8 (d.x3 : Int), .int .u8 (d.x4 : Int), .int .u8 (d.x5 : Int), .int .u8 (d.x6 : Int), .int .u8 (d.x7 : Int)] 31)).alloc (.cells #[.int .u8 0, .int .u8 0, .int .u8 0, .int .u8 0, .int .u8 0, .int .u8 0, .int .u8 0, .int .u8 0] 31) = v0 at *
  refine wp_region_held_drew (S := fun w' => w'.heap[w.heap.size]? = some (.cells #[.int .u8 (d.x0 : Int), .int .u8 (d.x1 : Int), .int .u8 (d.x2 : Int), .int .u8 (d.x3 : Int), .int .u8 (d.x4 : Int), .int .u8 (d.x5 : Int), .int .u8 (d.x6 : Int), .int .u8 (d.x7 : Int)] 31 (0, 0))) (by kernel_rfl) H0.out (fun hHeld => ?_)
  rw [show Array.replicate _ false = (#[false, false, false, false, false, false] : Array Bool) from rfl]
  refine takeH 0 (some 5) (v := ?_) rfl (by kernel_rfl) (by kernel_rfl) (by kernel_rfl) (by kernel_rfl) (fun _ _ _ h => h) (Or.inl ⟨by kernel_rfl, ?hy⟩) (by assumption) ?_
  case hy =>
    intro w' hSw
    try dsimp only at hSw
    obtain ⟨xf, x0, x1, x2, x3, x4, x5, x6, x7⟩ := free8 hSw
    clear xf hSw
    first
      | (go_simp; done)
      | (go_simp; with_reducible rfl)
  simp only [Act.put, List.setIfInBounds_toArray, List.set_cons_zero, List.set_cons_succ]
  refine takeH 1 (some 6) (v := ?_) rfl (by kernel_rfl) (by kernel_rfl) (by kernel_rfl) (by kernel_rfl) (fun _ _ _ h => h) (Or.inl ⟨by kernel_rfl, ?hy⟩) (by assumption) ?_
  case hy =>
    intro w' hSw
    clear hSw
    first
      | (go_simp; done)
      | (go_simp; with_reducible rfl)
  simp only [Act.put, List.setIfInBounds_toArray, List.set_cons_zero, List.set_cons_succ]
  refine takeH 2 (some 7) (v := ?_) rfl (by kernel_rfl) (by kernel_rfl) (by kernel_rfl) (by kernel_rfl) (fun _ _ _ h => h) (Or.inl ⟨by kernel_rfl, ?hy⟩) (by assumption) ?_
  case hy =>
    intro w' hSw
    clear hSw
    first
      | (go_simp; done)
      | (go_simp; with_reducible rfl)
  simp only [Act.put, List.setIfInBounds_toArray, List.set_cons_zero, List.set_cons_succ]
  have hq := (Below.refl v0.heap.size v0).drew
  refine wpAnyH_ready (rs := [3]) (by kernel_rfl) (by simp) ?_
  refine AllReadyH.cons rfl (fun K hK => ?_) AllReadyH.nil
  rw [if_pos (by kernel_rfl)]
  go_simp
  refine (hfrom_any c v0.drew (by omega)).mono ?_
  rintro e v1 ⟨rfl, hb⟩
  have hq1 := hq.trans hb
  have H1 := Lib.hid (block_below H0.out hq1 (block_lt H0.out)); have HX1 := Lib.hid (block_below HX0.out hq1 (block_lt HX0.out)); have Hw1 := Lib.hid (Hw0.out.trans (hq1.mono Hw0.out.size))
  clear hq hb hq1 H0 HX0 Hw0
  refine hK.out _ _ H1.out (fun _ => ?_)
  clear hK K
  simp only [List.setIfInBounds_toArray, List.set_cons_zero, List.set_cons_succ]
  refine wpAnyH_ready (rs := [4]) (by kernel_rfl) (by simp) ?_
  refine AllReadyH.cons rfl (fun K hK => ?_) AllReadyH.nil
  rw [if_pos (by kernel_rfl)]
  go_simp
  refine (two_any d (D8.of c) v1 Hd.out (D8.of_ok _)).mono ?_
  rintro e v2 ⟨rfl, hb⟩
  have H2 := Lib.hid (block_below H1.out hb (block_lt H1.out)); have hx := block_below HX1.out hb (block_lt HX1.out); have hw := Hw1.out.trans (hb.mono Hw1.out.size)
  have Hp : Hid (startD d c = hashTwo d (D8.of c)) := Lib.hid rfl
  rw [← Hp.out]
  clear hb H1 HX1 Hw1
  refine hK.out _ _ H2.out (fun _ => ?_)
  clear hK K
  simp only [List.setIfInBounds_toArray, List.set_cons_zero, List.set_cons_succ]
  generalize hp2 : startD d c = p at *
  have Hp2 := Lib.hid hp2
  clear hp2
  have Hbx := Lib.hid hx; have Hbw := Lib.hid hw
  obtain ⟨zf, r0, r1, r2, r3, r4, r5, r6, r7⟩ := free8 hx
  clear hx hw
  refine wpAnyH_ready (rs := [5]) (by kernel_rfl) (by simp) ?_
  refine AllReadyH.cons rfl (fun K hK => ?_) AllReadyH.nil
  rw [if_pos (by kernel_rfl)]
  go_simp
  have h3 := (grown_set8 v2 (w.heap.size + 1) (.int .u8 (p.x0 : Int)) (.int .u8 (p.x1 : Int)) (.int .u8 (p.x2 : Int)) (.int .u8 (p.x3 : Int)) (.int .u8 (p.x4 : Int)) (.int .u8 (p.x5 : Int)) (.int .u8 (p.x6 : Int)) (.int .u8 (p.x7 : Int))).block w.heap.size (block_lt H2.out) (by intro e; injection e with e; omega)
  refine hK.out _ _ (h3.trans H2.out) (fun _ => ?_)
  clear hK K h3
  refine wpAnyH_done (by kernel_rfl) ?_ _
  go_wp2
  clear zf r0 r1 r2 r3 r4 r5 r6 r7
  have h8 := set8 Hbx.out (.int .u8 (p.x0 : Int)) (.int .u8 (p.x1 : Int)) (.int .u8 (p.x2 : Int)) (.int .u8 (p.x3 : Int)) (.int .u8 (p.x4 : Int)) (.int .u8 (p.x5 : Int)) (.int .u8 (p.x6 : Int)) (.int .u8 (p.x7 : Int))
  have hg8 := grown_set8 v2 (w.heap.size + 1) (.int .u8 (p.x0 : Int)) (.int .u8 (p.x1 : Int)) (.int .u8 (p.x2 : Int)) (.int .u8 (p.x3 : Int)) (.int .u8 (p.x4 : Int)) (.int .u8 (p.x5 : Int)) (.int .u8 (p.x6 : Int)) (.int .u8 (p.x7 : Int))
  generalize ((((((((v2.setCell ⟨w.heap.size + 1, 0, none⟩ (.int .u8 (p.x0 : Int))).setCell ⟨w.heap.size + 1, 1, none⟩ (.int .u8 (p.x1 : Int))).setCell ⟨w.heap.size + 1, 2, none⟩ (.int .u8 (p.x2 : Int))).setCell ⟨w.heap.size + 1, 3, none⟩ (.int .u8 (p.x3 : Int))).setCell ⟨w.heap.size + 1, 4, none⟩ (.int .u8 (p.x4 : Int))).setCell ⟨w.heap.size + 1, 5, none⟩ (.int .u8 (p.x5 : Int))).setCell ⟨w.heap.size + 1, 6, none⟩ (.int .u8 (p.x6 : Int))).setCell ⟨w.heap.size + 1, 7, none⟩ (.int .u8 (p.x7 : Int))) = v3 at *
  obtain ⟨zf, r0, r1, r2, r3, r4, r5, r6, r7⟩ := free8 h8
  have Hb2 := Lib.hid (Hbw.out.grown hg8 Hbw.out.size (fun k hk => by injection hk with hk; omega))
  clear h8 hg8
  refine bodyPost_ret (v := .agg #[.int .u8 (p.x0 : Int), .int .u8 (p.x1 : Int), .int .u8 (p.x2 : Int), .int .u8 (p.x3 : Int), .int .u8 (p.x4 : Int), .int .u8 (p.x5 : Int), .int .u8 (p.x6 : Int), .int .u8 (p.x7 : Int)]) (by simp [results, Tryd.results28, go_sem, r0, r1, r2, r3, r4, r5, r6, r7]) rfl ⟨by rw [Hp2.out], Hb2.out⟩
def endD (d : D8) (c : Nat) : D8 := chainD (startD d c) 15
theorem endD_ok (d : D8) (c : Nat) : (endD d c).ok := chainD_ok (startD_ok d c) _
set_option maxRecDepth 100000 in
set_option maxHeartbeats 2000000 in
theorem pub1_any (d : D8) (c pb : Nat) (w : World) (hd : d.ok) (hc : c < 1000000) (hb : w.heap[pb]? = some (.cells #[.int .u8 (d.x0 : Int), .int .u8 (d.x1 : Int), .int .u8 (d.x2 : Int), .int .u8 (d.x3 : Int), .int .u8 (d.x4 : Int), .int .u8 (d.x5 : Int), .int .u8 (d.x6 : Int), .int .u8 (d.x7 : Int)] 31 (0, 0))) :
    Calls Tryd.prog 26 #[.int .i64 (c : Int), .pointer (some ⟨pb, 0, none⟩)] w fun e w' => e = .returned (.agg #[.int .u8 ((endD d c).x0 : Int), .int .u8 ((endD d c).x1 : Int), .int .u8 ((endD d c).x2 : Int), .int .u8 ((endD d c).x3 : Int), .int .u8 ((endD d c).x4 : Int), .int .u8 ((endD d c).x5 : Int), .int .u8 ((endD d c).x6 : Int), .int .u8 ((endD d c).x7 : Int)]) ∧ Below w.heap.size w w' := by
  have Hd := Lib.hid hd
  have HX0 : Hid ((w.alloc (.cells #[.int .u8 0, .int .u8 0, .int .u8 0, .int .u8 0, .int .u8 0, .int .u8 0, .int .u8 0, .int .u8 0] 31)).heap[w.heap.size]? = some (.cells #[.int .u8 0, .int .u8 0, .int .u8 0, .int .u8 0, .int .u8 0, .int .u8 0, .int .u8 0, .int .u8 0] 31 (0, 0))) := heap_alloc_new w _
  have Hw0 := Lib.hid (h_one w (.cells #[.int .u8 0, .int .u8 0, .int .u8 0, .int .u8 0, .int .u8 0, .int .u8 0, .int .u8 0, .int .u8 0] 31))
  have H0 := Lib.hid (block_alloc hb (.cells #[.int .u8 0, .int .u8 0, .int .u8 0, .int .u8 0, .int .u8 0, .int .u8 0, .int .u8 0, .int .u8 0] 31))
  clear hd hb
  go_enter Tryd.func26, Tryd.ntmps26
  go_upto_region 1 with fail
  generalize w.alloc (.cells #[.int .u8 0, .int .u8 0, .int .u8 0, .int .u8 0, .int .u8 0, .int .u8 0, .int .u8 0, .int .u8 0] 31) = v0 at *
  obtain ⟨zf, r0, r1, r2, r3, r4, r5, r6, r7⟩ := free8 H0.out
  have hl := block_lt H0.out
  clear zf
  go_wp2_with fail
  refine (start_any d c v0 Hd.out hc).mono ?_
  rintro e v1 ⟨rfl, hb⟩
  have HX1 := Lib.hid (block_below HX0.out hb (block_lt HX0.out)); have Hw1 := Lib.hid (Hw0.out.trans (hb.mono Hw0.out.size))
  clear hb r0 r1 r2 r3 r4 r5 r6 r7 HX0 Hw0
  have Hs := Lib.hid (startD_ok d c)
  have He : Hid (endD d c = chainD (startD d c) 15) := Lib.hid rfl
  generalize startD d c = st at *
  go_wp2_with fail
  refine (chain_any st 15 v1 Hs.out (by decide)).mono ?_
  rintro e v2 ⟨rfl, hb⟩
  have hx := block_below HX1.out hb (block_lt HX1.out); have hw := Hw1.out.trans (hb.mono Hw1.out.size)
  have Hbx := Lib.hid hx; have Hbw := Lib.hid hw
  obtain ⟨zf, r0, r1, r2, r3, r4, r5, r6, r7⟩ := free8 hx
  clear hb hx hw HX1 Hw1
  rw [← He.out]
  generalize hp2 : endD d c = p at *
  have Hp2 := Lib.hid hp2
  clear hp2
  go_wp2
  clear zf r0 r1 r2 r3 r4 r5 r6 r7
  have h8 := set8 Hbx.out (.int .u8 (p.x0 : Int)) (.int .u8 (p.x1 : Int)) (.int .u8 (p.x2 : Int)) (.int .u8 (p.x3 : Int)) (.int .u8 (p.x4 : Int)) (.int .u8 (p.x5 : Int)) (.int .u8 (p.x6 : Int)) (.int .u8 (p.x7 : Int))
  have hg8 := grown_set8 v2 (w.heap.size) (.int .u8 (p.x0 : Int)) (.int .u8 (p.x1 : Int)) (.int .u8 (p.x2 : Int)) (.int .u8 (p.x3 : Int)) (.int .u8 (p.x4 : Int)) (.int .u8 (p.x5 : Int)) (.int .u8 (p.x6 : Int)) (.int .u8 (p.x7 : Int))
  generalize ((((((((v2.setCell ⟨w.heap.size, 0, none⟩ (.int .u8 (p.x0 : Int))).setCell ⟨w.heap.size, 1, none⟩ (.int .u8 (p.x1 : Int))).setCell ⟨w.heap.size, 2, none⟩ (.int .u8 (p.x2 : Int))).setCell ⟨w.heap.size, 3, none⟩ (.int .u8 (p.x3 : Int))).setCell ⟨w.heap.size, 4, none⟩ (.int .u8 (p.x4 : Int))).setCell ⟨w.heap.size, 5, none⟩ (.int .u8 (p.x5 : Int))).setCell ⟨w.heap.size, 6, none⟩ (.int .u8 (p.x6 : Int))).setCell ⟨w.heap.size, 7, none⟩ (.int .u8 (p.x7 : Int))) = v3 at *
  obtain ⟨zf, r0, r1, r2, r3, r4, r5, r6, r7⟩ := free8 h8
  have Hb2 := Lib.hid (Hbw.out.grown hg8 Hbw.out.size (fun k hk => by injection hk with hk; omega))
  clear h8 hg8
  refine bodyPost_ret (v := .agg #[.int .u8 (p.x0 : Int), .int .u8 (p.x1 : Int), .int .u8 (p.x2 : Int), .int .u8 (p.x3 : Int), .int .u8 (p.x4 : Int), .int .u8 (p.x5 : Int), .int .u8 (p.x6 : Int), .int .u8 (p.x7 : Int)]) (by simp [results, Tryd.results26, go_sem, r0, r1, r2, r3, r4, r5, r6, r7]) rfl ⟨by rw [Hp2.out], Hb2.out⟩
end Go.Proofs.YthjpaclcoipocaaDoor
