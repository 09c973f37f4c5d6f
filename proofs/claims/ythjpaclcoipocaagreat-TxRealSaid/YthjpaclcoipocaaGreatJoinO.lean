/- The start of a chain, and what a key of one chain is: the walks of start and of Public's function. Condition: bounds on the chain's number. What a key is: the walks of key, with Public's function, and of Public. Condition: none. -/
import Derived.Test.YthjpaclcoipocaaGreatKeH
import Derived.Test.YthjpaclcoipocaaGreatInv
import Derived.Test.YthjpaclcoipocaaGreatKeR
namespace Go.Proofs.YthjpaclcoipocaaGreat
open Go.RowKit Go.Lib



def startD (d : D8) (c : Nat) : D8 := hashTwo d (D8.of c)
theorem startD_ok (d : D8) (c : Nat) : (startD d c).ok := hs_ok _
set_option maxRecDepth 100000 in
set_option maxHeartbeats 2000000 in
theorem start_any (d : D8) (c : Nat) (w : World) (hd : d.ok) (hc : c < 1000000) :
    Calls Tryz.prog 33 #[.agg #[.int .u8 (d.x0 : Int), .int .u8 (d.x1 : Int), .int .u8 (d.x2 : Int), .int .u8 (d.x3 : Int), .int .u8 (d.x4 : Int), .int .u8 (d.x5 : Int), .int .u8 (d.x6 : Int), .int .u8 (d.x7 : Int)], .int .i64 (c : Int)] w fun e w' => e = .returned (.agg #[.int .u8 ((startD d c).x0 : Int), .int .u8 ((startD d c).x1 : Int), .int .u8 ((startD d c).x2 : Int), .int .u8 ((startD d c).x3 : Int), .int .u8 ((startD d c).x4 : Int), .int .u8 ((startD d c).x5 : Int), .int .u8 ((startD d c).x6 : Int), .int .u8 ((startD d c).x7 : Int)]) ∧ Below w.heap.size w w' := by
  obtain ⟨hd0, hx0, hw0, hz0⟩ := alloc2 w (.cells #[.int .u8 (d.x0 : Int), .int .u8 (d.x1 : Int), .int .u8 (d.x2 : Int), .int .u8 (d.x3 : Int), .int .u8 (d.x4 : Int), .int .u8 (d.x5 : Int), .int .u8 (d.x6 : Int), .int .u8 (d.x7 : Int)] 30) (.cells #[.int .u8 0, .int .u8 0, .int .u8 0, .int .u8 0, .int .u8 0, .int .u8 0, .int .u8 0, .int .u8 0] 30)
  have Hd := Lib.hid hd
  have H0 := Lib.hid hd0; have HX0 := Lib.hid hx0; have Hw0 := Lib.hid hw0
  have hw64 : IntKind.u64.wrap (c : Int) = (c : Int) := by rw [IntKind.wrap_u64]; omega
  clear hd hd0 hx0 hw0 hz0
  go_enter Tryz.func33, Tryz.ntmps33
  go_upto_region 1 with fail
  generalize (w.alloc (.cells #[.int .u8 (d.x0 : Int), .int .u8 (d.x1 : Int), .int .u8 (d.x2 : Int), .int .u8 (d.x3 : Int), .int .u8 (d.x4 : Int), .int .u8 (d.x5 : Int), .int .u8 (d.x6 : Int), .int .u8 (d.x7 : Int)] 30)).alloc (.cells #[.int .u8 0, .int .u8 0, .int .u8 0, .int .u8 0, .int .u8 0, .int .u8 0, .int .u8 0, .int .u8 0] 30) = v0 at *
  refine wp_region_held_drew (S := fun w' => w'.heap[w.heap.size]? = some (.cells #[.int .u8 (d.x0 : Int), .int .u8 (d.x1 : Int), .int .u8 (d.x2 : Int), .int .u8 (d.x3 : Int), .int .u8 (d.x4 : Int), .int .u8 (d.x5 : Int), .int .u8 (d.x6 : Int), .int .u8 (d.x7 : Int)] 30 (0, 0))) (by kernel_rfl) H0.out (fun hHeld => ?_)
  rw [show Array.replicate _ false = (#[false, false, false, false, false, false] : Array Bool) from rfl]
  refine takeH 0 (some 5) (v := ?_) rfl (by kernel_rfl) (by kernel_rfl) (by kernel_rfl) (by kernel_rfl) (fun _ _ _ h => h) (Or.inl ⟨by kernel_rfl, ?hy⟩) (by assumption) ?_
  case hy =>
    intro w' hSw
    try dsimp only at hSw
    obtain ⟨xf, x0, x1, x2, x3, x4, x5, x6, x7⟩ := free8 hSw
    clear xf hSw
    first
      | (go_simp; done)
      | (go_simp; with_reducible rfl)
  simp only [Act.put, List.setIfInBounds_toArray, List.set_cons_zero, List.set_cons_succ]
  refine takeH 1 (some 6) (v := ?_) rfl (by kernel_rfl) (by kernel_rfl) (by kernel_rfl) (by kernel_rfl) (fun _ _ _ h => h) (Or.inl ⟨by kernel_rfl, ?hy⟩) (by assumption) ?_
  case hy =>
    intro w' hSw
    clear hSw
    first
      | (go_simp; done)
      | (go_simp; with_reducible rfl)
  simp only [Act.put, List.setIfInBounds_toArray, List.set_cons_zero, List.set_cons_succ]
  refine takeH 2 (some 7) (v := ?_) rfl (by kernel_rfl) (by kernel_rfl) (by kernel_rfl) (by kernel_rfl) (fun _ _ _ h => h) (Or.inl ⟨by kernel_rfl, ?hy⟩) (by assumption) ?_
  case hy =>
    intro w' hSw
    clear hSw
    first
      | (go_simp; done)
      | (go_simp; with_reducible rfl)
  simp only [Act.put, List.setIfInBounds_toArray, List.set_cons_zero, List.set_cons_succ]
  have hq := (Below.refl v0.heap.size v0).drew
  refine wpAnyH_ready (rs := [3]) (by kernel_rfl) (by simp) ?_
  refine AllReadyH.cons rfl (fun K hK => ?_) AllReadyH.nil
  rw [if_pos (by kernel_rfl)]
  go_simp
  refine (hfrom_any c v0.drew (by omega)).mono ?_
  rintro e v1 ⟨rfl, hb⟩
  have hq1 := hq.trans hb
  have H1 := Lib.hid (block_below H0.out hq1 (block_lt H0.out)); have HX1 := Lib.hid (block_below HX0.out hq1 (block_lt HX0.out)); have Hw1 := Lib.hid (Hw0.out.trans (hq1.mono Hw0.out.size))
  clear hq hb hq1 H0 HX0 Hw0
  refine hK.out _ _ H1.out (fun _ => ?_)
  clear hK K
  simp only [List.setIfInBounds_toArray, List.set_cons_zero, List.set_cons_succ]
  refine wpAnyH_ready (rs := [4]) (by kernel_rfl) (by simp) ?_
  refine AllReadyH.cons rfl (fun K hK => ?_) AllReadyH.nil
  rw [if_pos (by kernel_rfl)]
  go_simp
  refine (two_any d (D8.of c) v1 Hd.out (D8.of_ok _)).mono ?_
  rintro e v2 ⟨rfl, hb⟩
  have H2 := Lib.hid (block_below H1.out hb (block_lt H1.out)); have hx := block_below HX1.out hb (block_lt HX1.out); have hw := Hw1.out.trans (hb.mono Hw1.out.size)
  have Hp : Hid (startD d c = hashTwo d (D8.of c)) := Lib.hid rfl
  rw [← Hp.out]
  clear hb H1 HX1 Hw1
  refine hK.out _ _ H2.out (fun _ => ?_)
  clear hK K
  simp only [List.setIfInBounds_toArray, List.set_cons_zero, List.set_cons_succ]
  generalize hp2 : startD d c = p at *
  have Hp2 := Lib.hid hp2
  clear hp2
  have Hbx := Lib.hid hx; have Hbw := Lib.hid hw
  obtain ⟨zf, r0, r1, r2, r3, r4, r5, r6, r7⟩ := free8 hx
  clear hx hw
  refine wpAnyH_ready (rs := [5]) (by kernel_rfl) (by simp) ?_
  refine AllReadyH.cons rfl (fun K hK => ?_) AllReadyH.nil
  rw [if_pos (by kernel_rfl)]
  go_simp
  have h3 := (grown_set8 v2 (w.heap.size + 1) (.int .u8 (p.x0 : Int)) (.int .u8 (p.x1 : Int)) (.int .u8 (p.x2 : Int)) (.int .u8 (p.x3 : Int)) (.int .u8 (p.x4 : Int)) (.int .u8 (p.x5 : Int)) (.int .u8 (p.x6 : Int)) (.int .u8 (p.x7 : Int))).block w.heap.size (block_lt H2.out) (by intro e; injection e with e; omega)
  refine hK.out _ _ (h3.trans H2.out) (fun _ => ?_)
  clear hK K h3
  refine wpAnyH_done (by kernel_rfl) ?_ _
  go_wp2
  clear zf r0 r1 r2 r3 r4 r5 r6 r7
  have h8 := set8 Hbx.out (.int .u8 (p.x0 : Int)) (.int .u8 (p.x1 : Int)) (.int .u8 (p.x2 : Int)) (.int .u8 (p.x3 : Int)) (.int .u8 (p.x4 : Int)) (.int .u8 (p.x5 : Int)) (.int .u8 (p.x6 : Int)) (.int .u8 (p.x7 : Int))
  have hg8 := grown_set8 v2 (w.heap.size + 1) (.int .u8 (p.x0 : Int)) (.int .u8 (p.x1 : Int)) (.int .u8 (p.x2 : Int)) (.int .u8 (p.x3 : Int)) (.int .u8 (p.x4 : Int)) (.int .u8 (p.x5 : Int)) (.int .u8 (p.x6 : Int)) (.int .u8 (p.x7 : Int))
  generalize ((((((((v2.setCell ⟨w.heap.size + 1, 0, none⟩ (.int .u8 (p.x0 : Int))).setCell ⟨w.heap.size + 1, 1, none⟩ (.int .u8 (p.x1 : Int))).setCell ⟨w.heap.size + 1, 2, none⟩ (.int .u8 (p.x2 : Int))).setCell ⟨w.heap.size + 1, 3, none⟩ (.int .u8 (p.x3 : Int))).setCell ⟨w.heap.size + 1, 4, none⟩ (.int .u8 (p.x4 : Int))).setCell ⟨w.heap.size + 1, 5, none⟩ (.int .u8 (p.x5 : Int))).setCell ⟨w.heap.size + 1, 6, none⟩ (.int .u8 (p.x6 : Int))).setCell ⟨w.heap.size + 1, 7, none⟩ (.int .u8 (p.x7 : Int))) = v3 at *
  obtain ⟨zf, r0, r1, r2, r3, r4, r5, r6, r7⟩ := free8 h8
  have Hb2 := Lib.hid (Hbw.out.grown hg8 Hbw.out.size (fun k hk => by injection hk with hk; omega))
  clear h8 hg8
  refine bodyPost_ret (v := .agg #[.int .u8 (p.x0 : Int), .int .u8 (p.x1 : Int), .int .u8 (p.x2 : Int), .int .u8 (p.x3 : Int), .int .u8 (p.x4 : Int), .int .u8 (p.x5 : Int), .int .u8 (p.x6 : Int), .int .u8 (p.x7 : Int)]) (by simp [results, Tryz.results33, go_sem, r0, r1, r2, r3, r4, r5, r6, r7]) rfl ⟨by rw [Hp2.out], Hb2.out⟩
def endD (d : D8) (c : Nat) : D8 := chainD (startD d c) 15
theorem endD_ok (d : D8) (c : Nat) : (endD d c).ok := chainD_ok (startD_ok d c) _
set_option maxRecDepth 100000 in
set_option maxHeartbeats 2000000 in
theorem pub1_any (d : D8) (c pb : Nat) (w : World) (hd : d.ok) (hc : c < 1000000) (hb : w.heap[pb]? = some (.cells #[.int .u8 (d.x0 : Int), .int .u8 (d.x1 : Int), .int .u8 (d.x2 : Int), .int .u8 (d.x3 : Int), .int .u8 (d.x4 : Int), .int .u8 (d.x5 : Int), .int .u8 (d.x6 : Int), .int .u8 (d.x7 : Int)] 30 (0, 0))) :
    Calls Tryz.prog 31 #[.int .i64 (c : Int), .pointer (some ⟨pb, 0, none⟩)] w fun e w' => e = .returned (.agg #[.int .u8 ((endD d c).x0 : Int), .int .u8 ((endD d c).x1 : Int), .int .u8 ((endD d c).x2 : Int), .int .u8 ((endD d c).x3 : Int), .int .u8 ((endD d c).x4 : Int), .int .u8 ((endD d c).x5 : Int), .int .u8 ((endD d c).x6 : Int), .int .u8 ((endD d c).x7 : Int)]) ∧ Below w.heap.size w w' := by
  have Hd := Lib.hid hd
  have HX0 : Hid ((w.alloc (.cells #[.int .u8 0, .int .u8 0, .int .u8 0, .int .u8 0, .int .u8 0, .int .u8 0, .int .u8 0, .int .u8 0] 30)).heap[w.heap.size]? = some (.cells #[.int .u8 0, .int .u8 0, .int .u8 0, .int .u8 0, .int .u8 0, .int .u8 0, .int .u8 0, .int .u8 0] 30 (0, 0))) := heap_alloc_new w _
  have Hw0 := Lib.hid (h_one w (.cells #[.int .u8 0, .int .u8 0, .int .u8 0, .int .u8 0, .int .u8 0, .int .u8 0, .int .u8 0, .int .u8 0] 30))
  have H0 := Lib.hid (block_alloc hb (.cells #[.int .u8 0, .int .u8 0, .int .u8 0, .int .u8 0, .int .u8 0, .int .u8 0, .int .u8 0, .int .u8 0] 30))
  clear hd hb
  go_enter Tryz.func31, Tryz.ntmps31
  go_upto_region 1 with fail
  generalize w.alloc (.cells #[.int .u8 0, .int .u8 0, .int .u8 0, .int .u8 0, .int .u8 0, .int .u8 0, .int .u8 0, .int .u8 0] 30) = v0 at *
  obtain ⟨zf, r0, r1, r2, r3, r4, r5, r6, r7⟩ := free8 H0.out
  have hl := block_lt H0.out
  clear zf
  go_wp2_with fail
  refine (start_any d c v0 Hd.out hc).mono ?_
  rintro e v1 ⟨rfl, hb⟩
  have HX1 := Lib.hid (block_below HX0.out hb (block_lt HX0.out)); have Hw1 := Lib.hid (Hw0.out.trans (hb.mono Hw0.out.size))
  clear hb r0 r1 r2 r3 r4 r5 r6 r7 HX0 Hw0
  have Hs := Lib.hid (startD_ok d c)
  have He : Hid (endD d c = chainD (startD d c) 15) := Lib.hid rfl
  generalize startD d c = st at *
  go_wp2_with fail
  refine (chain_any st 15 v1 Hs.out (by decide)).mono ?_
  rintro e v2 ⟨rfl, hb⟩
  have hx := block_below HX1.out hb (block_lt HX1.out); have hw := Hw1.out.trans (hb.mono Hw1.out.size)
  have Hbx := Lib.hid hx; have Hbw := Lib.hid hw
  obtain ⟨zf, r0, r1, r2, r3, r4, r5, r6, r7⟩ := free8 hx
  clear hb hx hw HX1 Hw1
  rw [← He.out]
  generalize hp2 : endD d c = p at *
  have Hp2 := Lib.hid hp2
  clear hp2
  go_wp2
  clear zf r0 r1 r2 r3 r4 r5 r6 r7
  have h8 := set8 Hbx.out (.int .u8 (p.x0 : Int)) (.int .u8 (p.x1 : Int)) (.int .u8 (p.x2 : Int)) (.int .u8 (p.x3 : Int)) (.int .u8 (p.x4 : Int)) (.int .u8 (p.x5 : Int)) (.int .u8 (p.x6 : Int)) (.int .u8 (p.x7 : Int))
  have hg8 := grown_set8 v2 (w.heap.size) (.int .u8 (p.x0 : Int)) (.int .u8 (p.x1 : Int)) (.int .u8 (p.x2 : Int)) (.int .u8 (p.x3 : Int)) (.int .u8 (p.x4 : Int)) (.int .u8 (p.x5 : Int)) (.int .u8 (p.x6 : Int)) (.int .u8 (p.x7 : Int))
  generalize ((((((((v2.setCell ⟨w.heap.size, 0, none⟩ (.int .u8 (p.x0 : Int))).setCell ⟨w.heap.size, 1, none⟩ (.int .u8 (p.x1 : Int))).setCell ⟨w.heap.size, 2, none⟩ (.int .u8 (p.x2 : Int))).setCell ⟨w.heap.size, 3, none⟩ (.int .u8 (p.x3 : Int))).setCell ⟨w.heap.size, 4, none⟩ (.int .u8 (p.x4 : Int))).setCell ⟨w.heap.size, 5, none⟩ (.int .u8 (p.x5 : Int))).setCell ⟨w.heap.size, 6, none⟩ (.int .u8 (p.x6 : Int))).setCell ⟨w.heap.size, 7, none⟩ (.int .u8 (p.x7 : Int))) = v3 at *
  obtain ⟨zf, r0, r1, r2, r3, r4, r5, r6, r7⟩ := free8 h8
  have Hb2 := Lib.hid (Hbw.out.grown hg8 Hbw.out.size (fun k hk => by injection hk with hk; omega))
  clear h8 hg8
  refine bodyPost_ret (v := .agg #[.int .u8 (p.x0 : Int), .int .u8 (p.x1 : Int), .int .u8 (p.x2 : Int), .int .u8 (p.x3 : Int), .int .u8 (p.x4 : Int), .int .u8 (p.x5 : Int), .int .u8 (p.x6 : Int), .int .u8 (p.x7 : Int)]) (by simp [results, Tryz.results31, go_sem, r0, r1, r2, r3, r4, r5, r6, r7]) rfl ⟨by rw [Hp2.out], Hb2.out⟩
end Go.Proofs.YthjpaclcoipocaaGreat
namespace Go.Proofs.YthjpaclcoipocaaGreat
open Go.RowKit Go.Lib



def keyD (E : Nat → D8) : D8 := hashMany ((List.range 18).map E)
theorem keyD_ok (E : Nat → D8) : (keyD E).ok := hs_ok _
def publicD (d : D8) : D8 := keyD (endD d)
theorem publicD_ok (d : D8) : (publicD d).ok := hs_ok _
set_option maxRecDepth 100000 in
set_option maxHeartbeats 4000000 in
theorem key_any (E : Nat → D8) (hE : ∀ c, (E c).ok) (pb : Nat) (d : D8) (w : World) (hb : w.heap[pb]? = some (.cells #[.int .u8 (d.x0 : Int), .int .u8 (d.x1 : Int), .int .u8 (d.x2 : Int), .int .u8 (d.x3 : Int), .int .u8 (d.x4 : Int), .int .u8 (d.x5 : Int), .int .u8 (d.x6 : Int), .int .u8 (d.x7 : Int)] 30 (0, 0)))
    (hcl : ∀ u (c : Nat), c < 18 → u.heap[pb]? = some (.cells #[.int .u8 (d.x0 : Int), .int .u8 (d.x1 : Int), .int .u8 (d.x2 : Int), .int .u8 (d.x3 : Int), .int .u8 (d.x4 : Int), .int .u8 (d.x5 : Int), .int .u8 (d.x6 : Int), .int .u8 (d.x7 : Int)] 30 (0, 0)) → Calls Tryz.prog 31 #[.int .i64 (c : Int), .pointer (some ⟨pb, 0, none⟩)] u fun e u' => e = .returned (.agg #[.int .u8 ((E c).x0 : Int), .int .u8 ((E c).x1 : Int), .int .u8 ((E c).x2 : Int), .int .u8 ((E c).x3 : Int), .int .u8 ((E c).x4 : Int), .int .u8 ((E c).x5 : Int), .int .u8 ((E c).x6 : Int), .int .u8 ((E c).x7 : Int)]) ∧ Below u.heap.size u u') :
    Calls Tryz.prog 30 #[.func (.func 31) #[] #[.pointer (some ⟨pb, 0, none⟩)]] w fun e w' => e = .returned (.agg #[.int .u8 ((keyD E).x0 : Int), .int .u8 ((keyD E).x1 : Int), .int .u8 ((keyD E).x2 : Int), .int .u8 ((keyD E).x3 : Int), .int .u8 ((keyD E).x4 : Int), .int .u8 ((keyD E).x5 : Int), .int .u8 ((keyD E).x6 : Int), .int .u8 ((keyD E).x7 : Int)]) ∧ Below w.heap.size w w' := by
  have HE := Lib.hid hE; have HC := Lib.hid hcl
  have HX0 : Hid ((w.alloc (.cells #[.int .u8 0, .int .u8 0, .int .u8 0, .int .u8 0, .int .u8 0, .int .u8 0, .int .u8 0, .int .u8 0] 30)).heap[w.heap.size]? = some (.cells #[.int .u8 0, .int .u8 0, .int .u8 0, .int .u8 0, .int .u8 0, .int .u8 0, .int .u8 0, .int .u8 0] 30 (0, 0))) := heap_alloc_new w _
  have Hw0 := Lib.hid (h_one w (.cells #[.int .u8 0, .int .u8 0, .int .u8 0, .int .u8 0, .int .u8 0, .int .u8 0, .int .u8 0, .int .u8 0] 30))
  have HB0 := Lib.hid (block_alloc hb (.cells #[.int .u8 0, .int .u8 0, .int .u8 0, .int .u8 0, .int .u8 0, .int .u8 0, .int .u8 0, .int .u8 0] 30))
  have hpb := block_lt hb
  clear hE hcl hb
  go_enter Tryz.func30, Tryz.ntmps30
  go_upto_region 1 with fail
  generalize w.alloc (.cells #[.int .u8 0, .int .u8 0, .int .u8 0, .int .u8 0, .int .u8 0, .int .u8 0, .int .u8 0, .int .u8 0] 30) = v0 at *
  have HR1 : Hid (DRow (newD v0 18) v0.heap.size 18 (rowK E 0 18)) := by rw [rowK_zero]; exact newD_row v0 18
  have HX1 : Hid ((newD v0 18).heap[w.heap.size]? = some (.cells #[.int .u8 0, .int .u8 0, .int .u8 0, .int .u8 0, .int .u8 0, .int .u8 0, .int .u8 0, .int .u8 0] 30 (0, 0))) := newD_block HX0.out
  have HB1 : Hid ((newD v0 18).heap[pb]? = some (.cells #[.int .u8 (d.x0 : Int), .int .u8 (d.x1 : Int), .int .u8 (d.x2 : Int), .int .u8 (d.x3 : Int), .int .u8 (d.x4 : Int), .int .u8 (d.x5 : Int), .int .u8 (d.x6 : Int), .int .u8 (d.x7 : Int)] 30 (0, 0))) := newD_block HB0.out
  have Hw1 := Lib.hid (Hw0.out.trans ((newD_below v0 18).mono Hw0.out.size))
  have hz1 : w.heap.size < v0.heap.size := block_lt HX0.out
  have hmk0 : (Instr.makeSlice 66 (.int .i64 18) (.int .i64 18)).run Tryz.prog v0 = .ok (.slice (some ⟨v0.heap.size, 0, none⟩) 18 18) (newD v0 18) := make_dig 18 (by decide) v0
  go_upto_region 2 with (rw [hmk0]; simp only [Result.andThen_ok])
  generalize newD v0 18 = v1 at *
  generalize v0.heap.size = g at *
  clear hmk0 HX0 Hw0 HB0
  go_wp2
  go_loopw [8] (fun i wr => ∃ k : Nat, k ≤ 18 ∧ i = .int .i64 (k : Int) ∧ DRow wr g 18 (rowK E k 18) ∧ wr.heap[w.heap.size]? = some (.cells #[.int .u8 0, .int .u8 0, .int .u8 0, .int .u8 0, .int .u8 0, .int .u8 0, .int .u8 0, .int .u8 0] 30 (0, 0)) ∧ wr.heap[pb]? = some (.cells #[.int .u8 (d.x0 : Int), .int .u8 (d.x1 : Int), .int .u8 (d.x2 : Int), .int .u8 (d.x3 : Int), .int .u8 (d.x4 : Int), .int .u8 (d.x5 : Int), .int .u8 (d.x6 : Int), .int .u8 (d.x7 : Int)] 30 (0, 0)) ∧ Below w.heap.size w wr) (fun i _ => 18 - (intOf i).toNat)
  case atStart => exact ⟨0, by omega, rfl, HR1.out, HX1.out, HB1.out, Hw1.out⟩
  case round =>
    obtain ⟨k, hk, rfl, hR, hX, hB, hw⟩ := hrel
    have HR := Lib.hid hR; have HX := Lib.hid hX; have HB := Lib.hid hB; have Hw := Lib.hid hw
    clear hR hX hB hw HR1 HX1 HB1 Hw1
    by_cases hlt : k < 18
    · have hd1 : decide ((k : Int) < 18) = true := decide_eq_true (by omega)
      have hki : (k : Int) < 18 := by omega
      have Hk := Lib.hid hlt
      have hcl := HC.out wr k hlt HB.out
      have Hset := Lib.hid (rowK_set E k 18)
      generalize hq : E k = q at *
      have Hq := Lib.hid hq
      clear hq
      go_wp2_with fail
      refine hcl.mono ?_
      rintro e v2 ⟨rfl, hb2⟩
      have HR2 := Lib.hid (HR.out.below hb2); have HX2 := Lib.hid (block_below HX.out hb2 (block_lt HX.out)); have HB2 := Lib.hid (block_below HB.out hb2 (block_lt HB.out)); have Hw2 := Lib.hid (Hw.out.trans (hb2.mono Hw.out.size))
      obtain ⟨zf, r0, r1, r2, r3, r4, r5, r6, r7⟩ := HR2.out.at8 Hk.out
      obtain ⟨h3, g3⟩ := HR2.out.setR Hk.out q
      rw [Hset.out] at h3
      have hlg := HR2.out.lt
      have HR3 := Lib.hid h3
      have HX3 := Lib.hid ((g3.block w.heap.size (block_lt HX2.out) (by intro e; injection e with e; omega)).trans HX2.out)
      have HB3 := Lib.hid ((g3.block pb (block_lt HB2.out) (by intro e; injection e with e; omega)).trans HB2.out)
      have Hw3 := Lib.hid (Hw2.out.grown g3 Hw2.out.size (fun q hq => by injection hq with hq; omega))
      clear hcl hb2 HR HX HB Hw h3 g3 HR2 HX2 HB2 Hw2
      go_wp2
      go_roundw
      case rel => exact ⟨k + 1, Hk.out, by go_num, HR3.out, HX3.out, HB3.out, Hw3.out⟩
      case measure => have := Hk.out; simp [intOf]; omega
    · obtain rfl : k = 18 := by omega
      have hd1 : decide (((18 : Nat) : Int) < 18) = false := by decide
      have hl : ((List.range 18).map E).length = 18 := by simp
      rw [rowK_full] at HR
      clear hlt hk HC
      go_wp2_with fail
      refine (many_any (some ⟨g, 0, none⟩) 18 18 ((List.range 18).map E) wr HR.out.rd (by
        intro x hx
        obtain ⟨c, _, rfl⟩ := List.mem_map.1 hx
        exact HE.out c) (by decide)).mono ?_
      rintro e v2 ⟨rfl, hb2⟩
      have Hbx := Lib.hid (block_below HX.out hb2 (block_lt HX.out)); have Hbw := Lib.hid (Hw.out.trans (hb2.mono Hw.out.size))
      have Hp : Hid (hashMany ((List.range 18).map E) = keyD E) := Lib.hid rfl
      obtain ⟨zf, r0, r1, r2, r3, r4, r5, r6, r7⟩ := free8 Hbx.out
      clear hb2 HR HX HB Hw
      generalize hashMany ((List.range 18).map E) = p at *
      go_wp2
      clear zf r0 r1 r2 r3 r4 r5 r6 r7
      have h8 := set8 Hbx.out (.int .u8 (p.x0 : Int)) (.int .u8 (p.x1 : Int)) (.int .u8 (p.x2 : Int)) (.int .u8 (p.x3 : Int)) (.int .u8 (p.x4 : Int)) (.int .u8 (p.x5 : Int)) (.int .u8 (p.x6 : Int)) (.int .u8 (p.x7 : Int))
      have hg8 := grown_set8 v2 (w.heap.size) (.int .u8 (p.x0 : Int)) (.int .u8 (p.x1 : Int)) (.int .u8 (p.x2 : Int)) (.int .u8 (p.x3 : Int)) (.int .u8 (p.x4 : Int)) (.int .u8 (p.x5 : Int)) (.int .u8 (p.x6 : Int)) (.int .u8 (p.x7 : Int))
      generalize ((((((((v2.setCell ⟨w.heap.size, 0, none⟩ (.int .u8 (p.x0 : Int))).setCell ⟨w.heap.size, 1, none⟩ (.int .u8 (p.x1 : Int))).setCell ⟨w.heap.size, 2, none⟩ (.int .u8 (p.x2 : Int))).setCell ⟨w.heap.size, 3, none⟩ (.int .u8 (p.x3 : Int))).setCell ⟨w.heap.size, 4, none⟩ (.int .u8 (p.x4 : Int))).setCell ⟨w.heap.size, 5, none⟩ (.int .u8 (p.x5 : Int))).setCell ⟨w.heap.size, 6, none⟩ (.int .u8 (p.x6 : Int))).setCell ⟨w.heap.size, 7, none⟩ (.int .u8 (p.x7 : Int))) = v3 at *
      obtain ⟨zf, r0, r1, r2, r3, r4, r5, r6, r7⟩ := free8 h8
      have Hb2 := Lib.hid (Hbw.out.grown hg8 Hbw.out.size (fun k hk => by injection hk with hk; omega))
      clear h8 hg8
      refine bodyPost_ret (v := .agg #[.int .u8 (p.x0 : Int), .int .u8 (p.x1 : Int), .int .u8 (p.x2 : Int), .int .u8 (p.x3 : Int), .int .u8 (p.x4 : Int), .int .u8 (p.x5 : Int), .int .u8 (p.x6 : Int), .int .u8 (p.x7 : Int)]) (by simp [results, Tryz.results30, go_sem, r0, r1, r2, r3, r4, r5, r6, r7]) rfl ⟨by rw [← Hp.out], Hb2.out⟩
set_option maxRecDepth 100000 in
set_option maxHeartbeats 2000000 in
theorem public_any (d : D8) (w : World) (hd : d.ok) :
    Calls Tryz.prog 19 #[.agg #[.int .u8 (d.x0 : Int), .int .u8 (d.x1 : Int), .int .u8 (d.x2 : Int), .int .u8 (d.x3 : Int), .int .u8 (d.x4 : Int), .int .u8 (d.x5 : Int), .int .u8 (d.x6 : Int), .int .u8 (d.x7 : Int)]] w fun e w' => e = .returned (.agg #[.int .u8 ((publicD d).x0 : Int), .int .u8 ((publicD d).x1 : Int), .int .u8 ((publicD d).x2 : Int), .int .u8 ((publicD d).x3 : Int), .int .u8 ((publicD d).x4 : Int), .int .u8 ((publicD d).x5 : Int), .int .u8 ((publicD d).x6 : Int), .int .u8 ((publicD d).x7 : Int)]) ∧ Below w.heap.size w w' := by
  obtain ⟨hd0, hx0, hw0, hz0⟩ := alloc2 w (.cells #[.int .u8 (d.x0 : Int), .int .u8 (d.x1 : Int), .int .u8 (d.x2 : Int), .int .u8 (d.x3 : Int), .int .u8 (d.x4 : Int), .int .u8 (d.x5 : Int), .int .u8 (d.x6 : Int), .int .u8 (d.x7 : Int)] 30) (.cells #[.int .u8 0, .int .u8 0, .int .u8 0, .int .u8 0, .int .u8 0, .int .u8 0, .int .u8 0, .int .u8 0] 30)
  have Hd := Lib.hid hd
  have H0 := Lib.hid hd0; have HX0 := Lib.hid hx0; have Hw0 := Lib.hid hw0
  clear hd hd0 hx0 hw0 hz0
  go_enter Tryz.func19, Tryz.ntmps19
  go_upto_region 1 with fail
  generalize (w.alloc (.cells #[.int .u8 (d.x0 : Int), .int .u8 (d.x1 : Int), .int .u8 (d.x2 : Int), .int .u8 (d.x3 : Int), .int .u8 (d.x4 : Int), .int .u8 (d.x5 : Int), .int .u8 (d.x6 : Int), .int .u8 (d.x7 : Int)] 30)).alloc (.cells #[.int .u8 0, .int .u8 0, .int .u8 0, .int .u8 0, .int .u8 0, .int .u8 0, .int .u8 0, .int .u8 0] 30) = v0 at *
  go_wp2_with fail
  refine (key_any (endD d) (endD_ok d) w.heap.size d v0 H0.out (fun u c hc hu => pub1_any d c w.heap.size u Hd.out (by omega) hu)).mono ?_
  rintro e v1 ⟨rfl, hb⟩
  have hx := block_below HX0.out hb (block_lt HX0.out); have hw := Hw0.out.trans (hb.mono Hw0.out.size)
  have Hbx := Lib.hid hx; have Hbw := Lib.hid hw
  obtain ⟨zf, r0, r1, r2, r3, r4, r5, r6, r7⟩ := free8 hx
  clear hb hx hw HX0 Hw0 H0
  have Hp : Hid (keyD (endD d) = publicD d) := Lib.hid rfl
  generalize keyD (endD d) = p at *
  go_wp2
  clear zf r0 r1 r2 r3 r4 r5 r6 r7
  have h8 := set8 Hbx.out (.int .u8 (p.x0 : Int)) (.int .u8 (p.x1 : Int)) (.int .u8 (p.x2 : Int)) (.int .u8 (p.x3 : Int)) (.int .u8 (p.x4 : Int)) (.int .u8 (p.x5 : Int)) (.int .u8 (p.x6 : Int)) (.int .u8 (p.x7 : Int))
  have hg8 := grown_set8 v1 (w.heap.size + 1) (.int .u8 (p.x0 : Int)) (.int .u8 (p.x1 : Int)) (.int .u8 (p.x2 : Int)) (.int .u8 (p.x3 : Int)) (.int .u8 (p.x4 : Int)) (.int .u8 (p.x5 : Int)) (.int .u8 (p.x6 : Int)) (.int .u8 (p.x7 : Int))
  generalize ((((((((v1.setCell ⟨w.heap.size + 1, 0, none⟩ (.int .u8 (p.x0 : Int))).setCell ⟨w.heap.size + 1, 1, none⟩ (.int .u8 (p.x1 : Int))).setCell ⟨w.heap.size + 1, 2, none⟩ (.int .u8 (p.x2 : Int))).setCell ⟨w.heap.size + 1, 3, none⟩ (.int .u8 (p.x3 : Int))).setCell ⟨w.heap.size + 1, 4, none⟩ (.int .u8 (p.x4 : Int))).setCell ⟨w.heap.size + 1, 5, none⟩ (.int .u8 (p.x5 : Int))).setCell ⟨w.heap.size + 1, 6, none⟩ (.int .u8 (p.x6 : Int))).setCell ⟨w.heap.size + 1, 7, none⟩ (.int .u8 (p.x7 : Int))) = v3 at *
  obtain ⟨zf, r0, r1, r2, r3, r4, r5, r6, r7⟩ := free8 h8
  have Hb2 := Lib.hid (Hbw.out.grown hg8 Hbw.out.size (fun k hk => by injection hk with hk; omega))
  clear h8 hg8
  refine bodyPost_ret (v := .agg #[.int .u8 (p.x0 : Int), .int .u8 (p.x1 : Int), .int .u8 (p.x2 : Int), .int .u8 (p.x3 : Int), .int .u8 (p.x4 : Int), .int .u8 (p.x5 : Int), .int .u8 (p.x6 : Int), .int .u8 (p.x7 : Int)]) (by simp [results, Tryz.results19, go_sem, r0, r1, r2, r3, r4, r5, r6, r7]) rfl ⟨by rw [← Hp.out], Hb2.out⟩
end Go.Proofs.YthjpaclcoipocaaGreat
