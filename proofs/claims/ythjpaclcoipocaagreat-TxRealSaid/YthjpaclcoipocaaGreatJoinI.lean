/- A number's digit; a tree's root by its highest node. Condition: a height of one digit. A leaf's way up to the root: the walks of with, Check. Condition: a way of eight at most, and a leaf that is there. A key that a signature tells: the walks of Check, piece, Told's function, key with it. Conditions: bounds. Whether bytes are a signature: the walks of Verify, of a ring's Public. Conditions: bounds. -/
import Derived.Test.YthjpaclcoipocaaGreatJoinS
import Derived.Test.YthjpaclcoipocaaGreatKeN
import Derived.Test.YthjpaclcoipocaaGreatKgI
import Derived.Deep.DeepCutAuto
import Derived.Test.YthjpaclcoipocaaGreatJoinU
import Derived.Test.YthjpaclcoipocaaGreatKeJ
import Derived.Test.YthjpaclcoipocaaGreatJoinL
import Derived.Test.YthjpaclcoipocaaGreatKgS
namespace Go.Proofs.YthjpaclcoipocaaGreat
open Go.RowKit Go.Lib



def digW (h : Nat) : ByteArray := ⟨#[UInt8.ofNat (48 + h)]⟩
set_option maxRecDepth 100000 in
set_option maxHeartbeats 4000000 in
theorem small_any (h : Nat) (w : World) (hh : h < 10) : Calls Tryz.prog 94 #[.int .i64 (h : Int)] w fun e w' => e = .returned (.string (digW h)) ∧ w' = w := by
  have : h = 0 ∨ h = 1 ∨ h = 2 ∨ h = 3 ∨ h = 4 ∨ h = 5 ∨ h = 6 ∨ h = 7 ∨ h = 8 ∨ h = 9 := by omega
  rcases this with rfl | rfl | rfl | rfl | rfl | rfl | rfl | rfl | rfl | rfl <;>
    (go_enter Tryz.func94, Tryz.ntmps94
     go_wp2
     go_ret
     exact ⟨by first | rfl | decide +kernel, rfl⟩)
set_option maxRecDepth 100000 in
set_option maxHeartbeats 4000000 in
theorem itoa_any (h : Nat) (w : World) (hh : h < 10) : Calls Tryz.prog 91 #[.int .i64 (h : Int)] w fun e w' => e = .returned (.string (digW h)) ∧ w' = w := by
  have Hs := Lib.hid (small_any h w hh)
  have Hf : Hid (Calls Tryz.prog 93 #[.int .i64 (h : Int), .int .i64 10] w fun e w' => e = .returned (.string (digW h)) ∧ w' = w) := by
    show Calls _ _ _ _ _
    have d1 : decide ((h : Int) < 100) = true := decide_eq_true (by omega)
    have d2 : decide ((0 : Int) ≤ (h : Int)) = true := decide_eq_true (by omega)
    go_enter Tryz.func93, Tryz.ntmps93
    go_wp2_with fail
    refine Hs.out.mono ?_
    rintro e w' ⟨rfl, rfl⟩
    go_wp2
    go_ret
    exact ⟨rfl, rfl⟩
  have Hi : Hid (Calls Tryz.prog 92 #[.int .i64 (h : Int)] w fun e w' => e = .returned (.string (digW h)) ∧ w' = w) := by
    show Calls _ _ _ _ _
    go_enter Tryz.func92, Tryz.ntmps92
    go_wp2_with fail
    refine Hf.out.mono ?_
    rintro e w' ⟨rfl, rfl⟩
    go_wp2
    go_ret
    exact ⟨rfl, rfl⟩
  go_enter Tryz.func91, Tryz.ntmps91
  go_wp2_with fail
  refine Hi.out.mono ?_
  rintro e w' ⟨rfl, rfl⟩
  go_wp2
  go_ret
  exact ⟨rfl, rfl⟩
theorem root_app {h : Nat} (hh : h < 10) : (⟨#[114, 111, 111, 116]⟩ : ByteArray) ++ digW h = rootW h := by
  have : h = 0 ∨ h = 1 ∨ h = 2 ∨ h = 3 ∨ h = 4 ∨ h = 5 ∨ h = 6 ∨ h = 7 ∨ h = 8 ∨ h = 9 := by omega
  rcases this with rfl | rfl | rfl | rfl | rfl | rfl | rfl | rfl | rfl | rfl <;> decide +kernel
theorem rootW_size (h : Nat) : (rootW h).size = 5 := rfl
set_option maxRecDepth 100000 in
set_option maxHeartbeats 2000000 in
theorem top_any (d : D8) (h : Nat) (w : World) (hd : d.ok) (hh : h < 10) :
    Calls Tryz.prog 90 #[.agg #[.int .u8 (d.x0 : Int), .int .u8 (d.x1 : Int), .int .u8 (d.x2 : Int), .int .u8 (d.x3 : Int), .int .u8 (d.x4 : Int), .int .u8 (d.x5 : Int), .int .u8 (d.x6 : Int), .int .u8 (d.x7 : Int)], .int .i64 (h : Int)] w fun e w' => e = .returned (.agg #[.int .u8 ((topD d h).x0 : Int), .int .u8 ((topD d h).x1 : Int), .int .u8 ((topD d h).x2 : Int), .int .u8 ((topD d h).x3 : Int), .int .u8 ((topD d h).x4 : Int), .int .u8 ((topD d h).x5 : Int), .int .u8 ((topD d h).x6 : Int), .int .u8 ((topD d h).x7 : Int)]) ∧ Below w.heap.size w w' := by
  obtain ⟨hd0, hx0, hw0, hz0⟩ := alloc2 w (.cells #[.int .u8 (d.x0 : Int), .int .u8 (d.x1 : Int), .int .u8 (d.x2 : Int), .int .u8 (d.x3 : Int), .int .u8 (d.x4 : Int), .int .u8 (d.x5 : Int), .int .u8 (d.x6 : Int), .int .u8 (d.x7 : Int)] 30) (.cells #[.int .u8 0, .int .u8 0, .int .u8 0, .int .u8 0, .int .u8 0, .int .u8 0, .int .u8 0, .int .u8 0] 30)
  have Hd := Lib.hid hd
  have H0 := Lib.hid hd0; have HX0 := Lib.hid hx0; have Hw0 := Lib.hid hw0
  have happ := root_app hh
  clear hd hd0 hx0 hw0 hz0
  go_enter Tryz.func90, Tryz.ntmps90
  go_upto_region 1 with fail
  generalize (w.alloc (.cells #[.int .u8 (d.x0 : Int), .int .u8 (d.x1 : Int), .int .u8 (d.x2 : Int), .int .u8 (d.x3 : Int), .int .u8 (d.x4 : Int), .int .u8 (d.x5 : Int), .int .u8 (d.x6 : Int), .int .u8 (d.x7 : Int)] 30)).alloc (.cells #[.int .u8 0, .int .u8 0, .int .u8 0, .int .u8 0, .int .u8 0, .int .u8 0, .int .u8 0, .int .u8 0] 30) = v0 at *
  refine wp_region_held_drew (S := fun w' => w'.heap[w.heap.size]? = some (.cells #[.int .u8 (d.x0 : Int), .int .u8 (d.x1 : Int), .int .u8 (d.x2 : Int), .int .u8 (d.x3 : Int), .int .u8 (d.x4 : Int), .int .u8 (d.x5 : Int), .int .u8 (d.x6 : Int), .int .u8 (d.x7 : Int)] 30 (0, 0))) (by kernel_rfl) H0.out (fun hHeld => ?_)
  rw [show Array.replicate _ false = (#[false, false, false, false, false, false] : Array Bool) from rfl]
  refine takeH 0 (some 5) (v := ?_) rfl (by kernel_rfl) (by kernel_rfl) (by kernel_rfl) (by kernel_rfl) (fun _ _ _ h => h) (Or.inl ⟨by kernel_rfl, ?hy⟩) (by assumption) ?_
  case hy =>
    intro w' hSw
    try dsimp only at hSw
    obtain ⟨xf, x0, x1, x2, x3, x4, x5, x6, x7⟩ := free8 hSw
    clear xf hSw
    first
      | (go_simp; done)
      | (go_simp; with_reducible rfl)
  simp only [Act.put, List.setIfInBounds_toArray, List.set_cons_zero, List.set_cons_succ]
  refine takeH 1 (some 6) (v := ?_) rfl (by kernel_rfl) (by kernel_rfl) (by kernel_rfl) (by kernel_rfl) (fun _ _ _ h => h) (Or.inl ⟨by kernel_rfl, ?hy⟩) (by assumption) ?_
  case hy =>
    intro w' hSw
    clear hSw
    first
      | (go_simp; done)
      | (go_simp; with_reducible rfl)
  simp only [Act.put, List.setIfInBounds_toArray, List.set_cons_zero, List.set_cons_succ]
  have hq := (Below.refl v0.heap.size v0).drew
  refine wpAnyH_ready (rs := [2]) (by kernel_rfl) (by simp) ?_
  refine AllReadyH.cons rfl (fun K hK => ?_) AllReadyH.nil
  rw [if_pos (by kernel_rfl)]
  go_simp
  refine (itoa_any h v0.drew hh).mono ?_
  rintro e v1 ⟨rfl, rfl⟩
  refine hK.out _ _ H0.out (fun _ => ?_)
  clear hK K
  simp only [List.setIfInBounds_toArray, List.set_cons_zero, List.set_cons_succ]
  refine takeH 3 (some 8) (v := .string (rootW h)) rfl (by kernel_rfl) (by kernel_rfl) (by kernel_rfl) (by kernel_rfl) (fun _ _ _ h => h) (Or.inl ⟨by kernel_rfl, ?hy⟩) (by assumption) ?_
  case hy =>
    intro w' hSw
    clear hSw
    go_simp
    show 4 + 1 ≤ 9223372036854775807
    decide
  simp only [Act.put, List.setIfInBounds_toArray, List.set_cons_zero, List.set_cons_succ]
  have Hp : Hid (topD d h = hashWord d (wordB (rootW h))) := Lib.hid rfl
  have hsz : (rootW h).size ≤ 1000000 := by rw [rootW_size]; decide
  clear happ
  generalize rootW h = rw_ at *
  refine wpAnyH_ready (rs := [4]) (by kernel_rfl) (by simp) ?_
  refine AllReadyH.cons rfl (fun K hK => ?_) AllReadyH.nil
  rw [if_pos (by kernel_rfl)]
  go_simp
  refine (word_any d rw_ v0.drew Hd.out hsz).mono ?_
  rintro e v2 ⟨rfl, hb0⟩
  have hb := hq.trans hb0
  have H2 := Lib.hid (block_below H0.out hb (block_lt H0.out)); have hx := block_below HX0.out hb (block_lt HX0.out); have hw := Hw0.out.trans (hb.mono Hw0.out.size)
  rw [← Hp.out]
  clear hb hb0 hq H0 HX0 Hw0
  refine hK.out _ _ H2.out (fun _ => ?_)
  clear hK K
  simp only [List.setIfInBounds_toArray, List.set_cons_zero, List.set_cons_succ]
  generalize hp2 : topD d h = p at *
  have Hp2 := Lib.hid hp2
  clear hp2
  have Hbx := Lib.hid hx; have Hbw := Lib.hid hw
  obtain ⟨zf, r0, r1, r2, r3, r4, r5, r6, r7⟩ := free8 hx
  clear hx hw
  refine wpAnyH_ready (rs := [5]) (by kernel_rfl) (by simp) ?_
  refine AllReadyH.cons rfl (fun K hK => ?_) AllReadyH.nil
  rw [if_pos (by kernel_rfl)]
  go_simp
  have h3 := (grown_set8 v2 (w.heap.size + 1) (.int .u8 (p.x0 : Int)) (.int .u8 (p.x1 : Int)) (.int .u8 (p.x2 : Int)) (.int .u8 (p.x3 : Int)) (.int .u8 (p.x4 : Int)) (.int .u8 (p.x5 : Int)) (.int .u8 (p.x6 : Int)) (.int .u8 (p.x7 : Int))).block w.heap.size (block_lt H2.out) (by intro e; injection e with e; omega)
  refine hK.out _ _ (h3.trans H2.out) (fun _ => ?_)
  clear hK K h3
  refine wpAnyH_done (by kernel_rfl) ?_ _
  go_wp2
  clear zf r0 r1 r2 r3 r4 r5 r6 r7
  have h8 := set8 Hbx.out (.int .u8 (p.x0 : Int)) (.int .u8 (p.x1 : Int)) (.int .u8 (p.x2 : Int)) (.int .u8 (p.x3 : Int)) (.int .u8 (p.x4 : Int)) (.int .u8 (p.x5 : Int)) (.int .u8 (p.x6 : Int)) (.int .u8 (p.x7 : Int))
  have hg8 := grown_set8 v2 (w.heap.size + 1) (.int .u8 (p.x0 : Int)) (.int .u8 (p.x1 : Int)) (.int .u8 (p.x2 : Int)) (.int .u8 (p.x3 : Int)) (.int .u8 (p.x4 : Int)) (.int .u8 (p.x5 : Int)) (.int .u8 (p.x6 : Int)) (.int .u8 (p.x7 : Int))
  generalize ((((((((v2.setCell ⟨w.heap.size + 1, 0, none⟩ (.int .u8 (p.x0 : Int))).setCell ⟨w.heap.size + 1, 1, none⟩ (.int .u8 (p.x1 : Int))).setCell ⟨w.heap.size + 1, 2, none⟩ (.int .u8 (p.x2 : Int))).setCell ⟨w.heap.size + 1, 3, none⟩ (.int .u8 (p.x3 : Int))).setCell ⟨w.heap.size + 1, 4, none⟩ (.int .u8 (p.x4 : Int))).setCell ⟨w.heap.size + 1, 5, none⟩ (.int .u8 (p.x5 : Int))).setCell ⟨w.heap.size + 1, 6, none⟩ (.int .u8 (p.x6 : Int))).setCell ⟨w.heap.size + 1, 7, none⟩ (.int .u8 (p.x7 : Int))) = v3 at *
  obtain ⟨zf, r0, r1, r2, r3, r4, r5, r6, r7⟩ := free8 h8
  have Hb2 := Lib.hid (Hbw.out.grown hg8 Hbw.out.size (fun k hk => by injection hk with hk; omega))
  clear h8 hg8
  refine bodyPost_ret (v := .agg #[.int .u8 (p.x0 : Int), .int .u8 (p.x1 : Int), .int .u8 (p.x2 : Int), .int .u8 (p.x3 : Int), .int .u8 (p.x4 : Int), .int .u8 (p.x5 : Int), .int .u8 (p.x6 : Int), .int .u8 (p.x7 : Int)]) (by simp [results, Tryz.results90, go_sem, r0, r1, r2, r3, r4, r5, r6, r7]) rfl ⟨by rw [Hp2.out], Hb2.out⟩
set_option maxRecDepth 100000 in
set_option maxHeartbeats 2000000 in
theorem root_any (T0 T1 bt h : Nat) (l : List D8) (w : World) (t : TreeAt w T0 T1 bt h l) :
    Calls Tryz.prog 118 #[.pointer (some ⟨bt, 0, none⟩)] w fun e w' => e = .returned (.agg #[.int .u8 ((rootD l h).x0 : Int), .int .u8 ((rootD l h).x1 : Int), .int .u8 ((rootD l h).x2 : Int), .int .u8 ((rootD l h).x3 : Int), .int .u8 ((rootD l h).x4 : Int), .int .u8 ((rootD l h).x5 : Int), .int .u8 ((rootD l h).x6 : Int), .int .u8 ((rootD l h).x7 : Int)]) ∧ Below w.heap.size w w' := by
  have HX0 : Hid ((w.alloc (.cells #[.int .u8 0, .int .u8 0, .int .u8 0, .int .u8 0, .int .u8 0, .int .u8 0, .int .u8 0, .int .u8 0] 30)).heap[w.heap.size]? = some (.cells #[.int .u8 0, .int .u8 0, .int .u8 0, .int .u8 0, .int .u8 0, .int .u8 0, .int .u8 0, .int .u8 0] 30 (0, 0))) := heap_alloc_new w _
  have Hw0 := Lib.hid (h_one w (.cells #[.int .u8 0, .int .u8 0, .int .u8 0, .int .u8 0, .int .u8 0, .int .u8 0, .int .u8 0, .int .u8 0] 30))
  have Ht := Lib.hid (t.below Hw0.out)
  have hh := t.hh
  clear t
  go_enter Tryz.func118, Tryz.ntmps118
  go_upto_region 1 with fail
  generalize w.alloc (.cells #[.int .u8 0, .int .u8 0, .int .u8 0, .int .u8 0, .int .u8 0, .int .u8 0, .int .u8 0, .int .u8 0] 30) = v0 at *
  have hw2 := theight_any T0 T1 bt h l v0 Ht.out
  go_wp2_with fail
  refine hw2.mono ?_
  rintro e w' ⟨rfl, rfl⟩
  obtain ⟨v0, rfl⟩ : ∃ v0 : World, v0 = w' := ⟨_, rfl⟩
  obtain ⟨A', c', gs, g1, g2, g3, g4⟩ := Ht.out.blk
  obtain ⟨_, _, hR⟩ := g4 h (Nat.le_refl _)
  have hc : v0.cell? ⟨bt, 1 + h, none⟩ = some (.slice (some ⟨gs h, 0, none⟩) 1 1) := by
    rw [block_cell g1, treeC_node _ _ _ _ _ (by omega)]
    unfold nodeV
    rw [if_pos (by omega), Nat.sub_self]
  have hbl := block_lt g1
  have hk13 : (h : Int) < 13 := by omega
  have hk0 : (0 : Int) ≤ (h : Int) := by omega
  rw [Nat.sub_self] at hR
  obtain ⟨zf, r0, r1, r2, r3, r4, r5, r6, r7⟩ := hR.at8 (show 0 < 2 ^ 0 by decide)
  have hlg := hR.lt
  have Hqo : Hid (((lvl l h).getD 0 D8.zero).ok) := Lib.hid (getD_ok (lvl_ok l h) _)
  have Hp : Hid (rootD l h = topD ((lvl l h).getD 0 D8.zero) h) := Lib.hid rfl
  generalize (lvl l h).getD 0 D8.zero = q at *
  generalize gs h = gk at *
  clear zf g1 g2 g3 g4 hR hw2 Ht
  go_wp2_with fail
  refine (top_any q h v0 Hqo.out (by omega)).mono ?_
  rintro e v2 ⟨rfl, hb⟩
  have hx := block_below HX0.out hb (block_lt HX0.out); have hw := Hw0.out.trans (hb.mono Hw0.out.size)
  have Hbx := Lib.hid hx; have Hbw := Lib.hid hw
  obtain ⟨zf, r0, r1, r2, r3, r4, r5, r6, r7⟩ := free8 hx
  rw [← Hp.out]
  generalize hp2 : rootD l h = p at *
  have Hp2 := Lib.hid hp2
  clear hp2 hb hx hw
  go_wp2
  clear zf r0 r1 r2 r3 r4 r5 r6 r7
  have h8 := set8 Hbx.out (.int .u8 (p.x0 : Int)) (.int .u8 (p.x1 : Int)) (.int .u8 (p.x2 : Int)) (.int .u8 (p.x3 : Int)) (.int .u8 (p.x4 : Int)) (.int .u8 (p.x5 : Int)) (.int .u8 (p.x6 : Int)) (.int .u8 (p.x7 : Int))
  have hg8 := grown_set8 v2 (w.heap.size) (.int .u8 (p.x0 : Int)) (.int .u8 (p.x1 : Int)) (.int .u8 (p.x2 : Int)) (.int .u8 (p.x3 : Int)) (.int .u8 (p.x4 : Int)) (.int .u8 (p.x5 : Int)) (.int .u8 (p.x6 : Int)) (.int .u8 (p.x7 : Int))
  generalize ((((((((v2.setCell ⟨w.heap.size, 0, none⟩ (.int .u8 (p.x0 : Int))).setCell ⟨w.heap.size, 1, none⟩ (.int .u8 (p.x1 : Int))).setCell ⟨w.heap.size, 2, none⟩ (.int .u8 (p.x2 : Int))).setCell ⟨w.heap.size, 3, none⟩ (.int .u8 (p.x3 : Int))).setCell ⟨w.heap.size, 4, none⟩ (.int .u8 (p.x4 : Int))).setCell ⟨w.heap.size, 5, none⟩ (.int .u8 (p.x5 : Int))).setCell ⟨w.heap.size, 6, none⟩ (.int .u8 (p.x6 : Int))).setCell ⟨w.heap.size, 7, none⟩ (.int .u8 (p.x7 : Int))) = v3 at *
  obtain ⟨zf, r0, r1, r2, r3, r4, r5, r6, r7⟩ := free8 h8
  have Hb2 := Lib.hid (Hbw.out.grown hg8 Hbw.out.size (fun k hk => by injection hk with hk; omega))
  clear h8 hg8
  refine bodyPost_ret (v := .agg #[.int .u8 (p.x0 : Int), .int .u8 (p.x1 : Int), .int .u8 (p.x2 : Int), .int .u8 (p.x3 : Int), .int .u8 (p.x4 : Int), .int .u8 (p.x5 : Int), .int .u8 (p.x6 : Int), .int .u8 (p.x7 : Int)]) (by simp [results, Tryz.results118, go_sem, r0, r1, r2, r3, r4, r5, r6, r7]) rfl ⟨by rw [Hp2.out], Hb2.out⟩
end Go.Proofs.YthjpaclcoipocaaGreat
namespace Go.Proofs.YthjpaclcoipocaaGreat
open Go.RowKit Go.Lib



theorem lowD_ok (d : D8) : (lowD d).ok := hs_ok _
theorem upD_take (d : D8) (pl : List D8) {k : Nat} (hk : k < pl.length) : ∀ i : Nat, upD d i (pl.take (k + 1)) = if i / 2 ^ k % 2 = 0 then hashTwo (upD d i (pl.take k)) (pl.getD k D8.zero) else hashTwo (pl.getD k D8.zero) (upD d i (pl.take k)) := by
  intro i
  rw [List.take_add_one, List.getElem?_eq_getElem hk]
  simp only [Option.toList_some]
  rw [upD_snoc]
  have e : (pl.take k).length = k := by rw [List.length_take]; omega
  rw [e, show pl.getD k D8.zero = pl[k] from by simp [List.getD_eq_getElem?_getD, List.getElem?_eq_getElem hk]]
/-- The root that a way leads to. -/
def wayD (i : Nat) (d : D8) (pl : List D8) : D8 := topD (upD (lowD d) i pl) pl.length
set_option maxRecDepth 100000 in
set_option maxHeartbeats 4000000 in
theorem with_any (i : Nat) (d : D8) (A : Option Addr) (n c : Nat) (pl : List D8) (w : World) (hd : d.ok) (hr : Rd w w.heap.size 8 A n (flatD pl)) (hok : ∀ x ∈ pl, x.ok) (hn : n ≤ 8) (hi : i < 2 ^ n) :
    Calls Tryz.prog 89 #[.int .i64 (i : Int), .agg #[.int .u8 (d.x0 : Int), .int .u8 (d.x1 : Int), .int .u8 (d.x2 : Int), .int .u8 (d.x3 : Int), .int .u8 (d.x4 : Int), .int .u8 (d.x5 : Int), .int .u8 (d.x6 : Int), .int .u8 (d.x7 : Int)], .slice A n c] w fun e w' => e = .returned (.tuple #[.agg #[.int .u8 ((wayD i d pl).x0 : Int), .int .u8 ((wayD i d pl).x1 : Int), .int .u8 ((wayD i d pl).x2 : Int), .int .u8 ((wayD i d pl).x3 : Int), .int .u8 ((wayD i d pl).x4 : Int), .int .u8 ((wayD i d pl).x5 : Int), .int .u8 ((wayD i d pl).x6 : Int), .int .u8 ((wayD i d pl).x7 : Int)], .bool true]) ∧ Below w.heap.size w w' := by
  obtain ⟨hd0, hx0, hw0, hz0⟩ := alloc2 w (.cells #[.int .u8 (d.x0 : Int), .int .u8 (d.x1 : Int), .int .u8 (d.x2 : Int), .int .u8 (d.x3 : Int), .int .u8 (d.x4 : Int), .int .u8 (d.x5 : Int), .int .u8 (d.x6 : Int), .int .u8 (d.x7 : Int)] 30) (.cells #[.int .u8 0, .int .u8 0, .int .u8 0, .int .u8 0, .int .u8 0, .int .u8 0, .int .u8 0, .int .u8 0] 30)
  have Hd := Lib.hid hd; have Hok := Lib.hid hok; have Hr := Lib.hid hr; have Hl := Lib.hid hr.dlenD
  have H0 := Lib.hid hd0; have HX0 := Lib.hid hx0; have Hw0 := Lib.hid hw0
  have hp := pow_le8 hn
  obtain ⟨hge, hlt2⟩ := geq_no hn (show ¬ 2 ^ n ≤ i by omega)
  have d1 : decide ((12 : Int) < (n : Int)) = false := decide_eq_false (by omega)
  have d2 : decide ((i : Int) < 0) = false := decide_eq_false (by omega)
  have d3 : decide ((n : Int) < 0) = false := decide_eq_false (by omega)
  have hi256 : i < 256 := by omega
  clear hd hok hr hd0 hx0 hw0 hi hp
  go_enter Tryz.func89, Tryz.ntmps89
  go_upto_region 1 with fail
  generalize (w.alloc (.cells #[.int .u8 (d.x0 : Int), .int .u8 (d.x1 : Int), .int .u8 (d.x2 : Int), .int .u8 (d.x3 : Int), .int .u8 (d.x4 : Int), .int .u8 (d.x5 : Int), .int .u8 (d.x6 : Int), .int .u8 (d.x7 : Int)] 30)).alloc (.cells #[.int .u8 0, .int .u8 0, .int .u8 0, .int .u8 0, .int .u8 0, .int .u8 0, .int .u8 0, .int .u8 0] 30) = v0 at *
  obtain ⟨zf, r0, r1, r2, r3, r4, r5, r6, r7⟩ := free8 H0.out
  have hl0 := block_lt H0.out
  clear zf
  go_wp2_with fail
  refine (low_any d v0 Hd.out).mono ?_
  rintro e v1 ⟨rfl, hb1⟩
  have Hlo := Lib.hid (lowD_ok d)
  have HX1 := Lib.hid (block_below HX0.out hb1 (block_lt HX0.out)); have Hw1 := Lib.hid (Hw0.out.trans (hb1.mono Hw0.out.size))
  have hz1 : w.heap.size + 1 < v1.heap.size := block_lt HX1.out
  obtain ⟨u0, hu0⟩ : ∃ u, u = lowD d := ⟨_, rfl⟩
  rw [← hu0] at Hlo ⊢
  have Hu0 := Lib.hid hu0
  have HB2 : Hid ((v1.alloc (.cells #[.int .u8 (u0.x0 : Int), .int .u8 (u0.x1 : Int), .int .u8 (u0.x2 : Int), .int .u8 (u0.x3 : Int), .int .u8 (u0.x4 : Int), .int .u8 (u0.x5 : Int), .int .u8 (u0.x6 : Int), .int .u8 (u0.x7 : Int)] 30)).heap[v1.heap.size]? = some (.cells #[.int .u8 (u0.x0 : Int), .int .u8 (u0.x1 : Int), .int .u8 (u0.x2 : Int), .int .u8 (u0.x3 : Int), .int .u8 (u0.x4 : Int), .int .u8 (u0.x5 : Int), .int .u8 (u0.x6 : Int), .int .u8 (u0.x7 : Int)] 30 (0, 0))) := heap_alloc_new v1 _
  have HX2 := Lib.hid (block_alloc HX1.out (.cells #[.int .u8 (u0.x0 : Int), .int .u8 (u0.x1 : Int), .int .u8 (u0.x2 : Int), .int .u8 (u0.x3 : Int), .int .u8 (u0.x4 : Int), .int .u8 (u0.x5 : Int), .int .u8 (u0.x6 : Int), .int .u8 (u0.x7 : Int)] 30))
  have Hw2 := Lib.hid (Hw1.out.alloc Hw1.out.size (.cells #[.int .u8 (u0.x0 : Int), .int .u8 (u0.x1 : Int), .int .u8 (u0.x2 : Int), .int .u8 (u0.x3 : Int), .int .u8 (u0.x4 : Int), .int .u8 (u0.x5 : Int), .int .u8 (u0.x6 : Int), .int .u8 (u0.x7 : Int)] 30))
  clear hb1 hu0 r0 r1 r2 r3 r4 r5 r6 r7 HX0 Hw0 H0 HX1 Hw1 hl0
  go_upto_region 5 with fail
  generalize v1.alloc (.cells #[.int .u8 (u0.x0 : Int), .int .u8 (u0.x1 : Int), .int .u8 (u0.x2 : Int), .int .u8 (u0.x3 : Int), .int .u8 (u0.x4 : Int), .int .u8 (u0.x5 : Int), .int .u8 (u0.x6 : Int), .int .u8 (u0.x7 : Int)] 30) = v2 at *
  generalize hb9 : v1.heap.size = b9 at *
  clear hb9
  go_wp2
  go_loopw [0, 31] (fun s0 s31 wr => ∃ (k : Nat), k ≤ n ∧ s31 = .int .i64 (k : Int) ∧ s0 = .int .i64 ((i / 2 ^ k : Nat) : Int) ∧ wr.heap[b9]? = some (.cells #[.int .u8 ((upD u0 i (pl.take k)).x0 : Int), .int .u8 ((upD u0 i (pl.take k)).x1 : Int), .int .u8 ((upD u0 i (pl.take k)).x2 : Int), .int .u8 ((upD u0 i (pl.take k)).x3 : Int), .int .u8 ((upD u0 i (pl.take k)).x4 : Int), .int .u8 ((upD u0 i (pl.take k)).x5 : Int), .int .u8 ((upD u0 i (pl.take k)).x6 : Int), .int .u8 ((upD u0 i (pl.take k)).x7 : Int)] 30 (0, 0)) ∧ wr.heap[w.heap.size + 1]? = some (.cells #[.int .u8 0, .int .u8 0, .int .u8 0, .int .u8 0, .int .u8 0, .int .u8 0, .int .u8 0, .int .u8 0] 30 (0, 0)) ∧ Below w.heap.size w wr) (fun _ s31 _ => n - (RowKit.intOf s31).toNat)
  case atStart => exact ⟨0, Nat.zero_le _, rfl, by simp, HB2.out, HX2.out, Hw2.out⟩
  case round =>
    obtain ⟨k, hk, rfl, rfl, hb, hx, hw⟩ := hrel
    have HB := Lib.hid hb; have HX := Lib.hid hx; have Hw := Lib.hid hw
    clear hb hx hw HB2 HX2 Hw2
    by_cases hlt : k < n
    · have hd1 : decide ((k : Int) < (n : Int)) = true := decide_eq_true (by omega)
      have hki : (k : Int) < (n : Int) := by omega
      have hkl : k < pl.length := by have := Hl.out; omega
      obtain ⟨bb, o, rfl, hbB, y0, y1, y2, y3, y4, y5, y6, y7⟩ := (Hr.out.below Hw.out (Nat.le_refl _)).di8 hlt
      have Hst := Lib.hid (upD_take u0 pl hkl i)
      have Hq := Lib.hid (getD_ok Hok.out k)
      have Huo := Lib.hid (upD_ok Hlo.out (pl.take k) i)
      have hxs : i / 2 ^ k / 2 = i / 2 ^ (k + 1) := by rw [Nat.div_div_eq_div_mul, Nat.pow_succ]
      have Hxs := Lib.hid hxs
      have hx256 : i / 2 ^ k < 256 := Nat.lt_of_le_of_lt (Nat.div_le_self _ _) hi256
      generalize pl.getD k D8.zero = q at *
      generalize upD u0 i (pl.take k) = u at *
      generalize i / 2 ^ k = x at *
      have Hk := Lib.hid hlt
      clear hxs hkl
      have hbw : bb < wr.heap.size := by have := Hw.out.size; omega
      have HQ3 : Hid ((wr.alloc (.cells #[.int .u8 (q.x0 : Int), .int .u8 (q.x1 : Int), .int .u8 (q.x2 : Int), .int .u8 (q.x3 : Int), .int .u8 (q.x4 : Int), .int .u8 (q.x5 : Int), .int .u8 (q.x6 : Int), .int .u8 (q.x7 : Int)] 30)).heap[wr.heap.size]? = some (.cells #[.int .u8 (q.x0 : Int), .int .u8 (q.x1 : Int), .int .u8 (q.x2 : Int), .int .u8 (q.x3 : Int), .int .u8 (q.x4 : Int), .int .u8 (q.x5 : Int), .int .u8 (q.x6 : Int), .int .u8 (q.x7 : Int)] 30 (0, 0))) := heap_alloc_new wr _
      have HB3 := Lib.hid (block_alloc HB.out (.cells #[.int .u8 (q.x0 : Int), .int .u8 (q.x1 : Int), .int .u8 (q.x2 : Int), .int .u8 (q.x3 : Int), .int .u8 (q.x4 : Int), .int .u8 (q.x5 : Int), .int .u8 (q.x6 : Int), .int .u8 (q.x7 : Int)] 30)); have HX3 := Lib.hid (block_alloc HX.out (.cells #[.int .u8 (q.x0 : Int), .int .u8 (q.x1 : Int), .int .u8 (q.x2 : Int), .int .u8 (q.x3 : Int), .int .u8 (q.x4 : Int), .int .u8 (q.x5 : Int), .int .u8 (q.x6 : Int), .int .u8 (q.x7 : Int)] 30)); have Hw3 := Lib.hid (Hw.out.alloc Hw.out.size (.cells #[.int .u8 (q.x0 : Int), .int .u8 (q.x1 : Int), .int .u8 (q.x2 : Int), .int .u8 (q.x3 : Int), .int .u8 (q.x4 : Int), .int .u8 (q.x5 : Int), .int .u8 (q.x6 : Int), .int .u8 (q.x7 : Int)] 30))
      go_upto_region 8 with fail
      generalize wr.alloc (.cells #[.int .u8 (q.x0 : Int), .int .u8 (q.x1 : Int), .int .u8 (q.x2 : Int), .int .u8 (q.x3 : Int), .int .u8 (q.x4 : Int), .int .u8 (q.x5 : Int), .int .u8 (q.x6 : Int), .int .u8 (q.x7 : Int)] 30) = u3 at *
      clear y0 y1 y2 y3 y4 y5 y6 y7 HB HX Hw
      have hl9 := block_lt HB3.out; have hlq := block_lt HQ3.out
      obtain ⟨zf, r0, r1, r2, r3, r4, r5, r6, r7⟩ := free8 HB3.out
      obtain ⟨yf, y0, y1, y2, y3, y4, y5, y6, y7⟩ := free8 HQ3.out
      clear zf yf
      by_cases hev : x % 2 = 0
      · have e1 : ((x : Int) % 2 == 0) = true := by simp; omega
        have e2 : decide ((x : Int) % 2 = 0) = true := decide_eq_true (by omega)
        go_wp2_with fail
        refine (two_any u q u3 Huo.out Hq.out).mono ?_
        rintro e u4 ⟨rfl, hb4⟩
        have hB4 := block_below HB3.out hb4 hl9; have HX4 := Lib.hid (block_below HX3.out hb4 (block_lt HX3.out)); have Hw4 := Lib.hid (Hw3.out.trans (hb4.mono Hw3.out.size))
        have hst := Hst.out
        rw [if_pos hev] at hst
        clear r0 r1 r2 r3 r4 r5 r6 r7 y0 y1 y2 y3 y4 y5 y6 y7 hl9 hlq hb4
        obtain ⟨p, hp⟩ : ∃ p, p = hashTwo u q := ⟨_, rfl⟩
        rw [← hp] at hst ⊢
        have Hst2 := Lib.hid hst
        clear hp hst
        have HB4 := Lib.hid hB4
        obtain ⟨zf, r0, r1, r2, r3, r4, r5, r6, r7⟩ := free8 hB4
        have hl9 := block_lt hB4
        clear hB4
        go_wp2
        clear zf r0 r1 r2 r3 r4 r5 r6 r7
        have h8 := set8 HB4.out (.int .u8 (p.x0 : Int)) (.int .u8 (p.x1 : Int)) (.int .u8 (p.x2 : Int)) (.int .u8 (p.x3 : Int)) (.int .u8 (p.x4 : Int)) (.int .u8 (p.x5 : Int)) (.int .u8 (p.x6 : Int)) (.int .u8 (p.x7 : Int))
        have hg8 := grown_set8 u4 b9 (.int .u8 (p.x0 : Int)) (.int .u8 (p.x1 : Int)) (.int .u8 (p.x2 : Int)) (.int .u8 (p.x3 : Int)) (.int .u8 (p.x4 : Int)) (.int .u8 (p.x5 : Int)) (.int .u8 (p.x6 : Int)) (.int .u8 (p.x7 : Int))
        generalize ((((((((u4.setCell ⟨b9, 0, none⟩ (.int .u8 (p.x0 : Int))).setCell ⟨b9, 1, none⟩ (.int .u8 (p.x1 : Int))).setCell ⟨b9, 2, none⟩ (.int .u8 (p.x2 : Int))).setCell ⟨b9, 3, none⟩ (.int .u8 (p.x3 : Int))).setCell ⟨b9, 4, none⟩ (.int .u8 (p.x4 : Int))).setCell ⟨b9, 5, none⟩ (.int .u8 (p.x5 : Int))).setCell ⟨b9, 6, none⟩ (.int .u8 (p.x6 : Int))).setCell ⟨b9, 7, none⟩ (.int .u8 (p.x7 : Int))) = u5 at *
        have HB5 := Lib.hid h8
        have HX5 := Lib.hid ((hg8.block _ (block_lt HX4.out) (by intro e; injection e with e; omega)).trans HX4.out)
        have Hw5 := Lib.hid (Hw4.out.grown hg8 Hw4.out.size (fun k hk => by injection hk with hk; omega))
        rw [← Hst2.out] at HB5
        clear h8 hg8
        go_roundw
        case rel => exact ⟨k + 1, Hk.out, by go_num, by rw [← Hxs.out]; go_num, HB5.out, HX5.out, Hw5.out⟩
        case measure => have := Hk.out; simp [RowKit.intOf]; omega
      · have e1 : ((x : Int) % 2 == 0) = false := by simp; omega
        have e2 : decide ((x : Int) % 2 = 0) = false := decide_eq_false (by omega)
        go_wp2_with fail
        refine (two_any q u u3 Hq.out Huo.out).mono ?_
        rintro e u4 ⟨rfl, hb4⟩
        have hB4 := block_below HB3.out hb4 hl9; have HX4 := Lib.hid (block_below HX3.out hb4 (block_lt HX3.out)); have Hw4 := Lib.hid (Hw3.out.trans (hb4.mono Hw3.out.size))
        have hst := Hst.out
        rw [if_neg hev] at hst
        clear r0 r1 r2 r3 r4 r5 r6 r7 y0 y1 y2 y3 y4 y5 y6 y7 hl9 hlq hb4
        obtain ⟨p, hp⟩ : ∃ p, p = hashTwo q u := ⟨_, rfl⟩
        rw [← hp] at hst ⊢
        have Hst2 := Lib.hid hst
        clear hp hst
        have HB4 := Lib.hid hB4
        obtain ⟨zf, r0, r1, r2, r3, r4, r5, r6, r7⟩ := free8 hB4
        have hl9 := block_lt hB4
        clear hB4
        go_wp2
        clear zf r0 r1 r2 r3 r4 r5 r6 r7
        have h8 := set8 HB4.out (.int .u8 (p.x0 : Int)) (.int .u8 (p.x1 : Int)) (.int .u8 (p.x2 : Int)) (.int .u8 (p.x3 : Int)) (.int .u8 (p.x4 : Int)) (.int .u8 (p.x5 : Int)) (.int .u8 (p.x6 : Int)) (.int .u8 (p.x7 : Int))
        have hg8 := grown_set8 u4 b9 (.int .u8 (p.x0 : Int)) (.int .u8 (p.x1 : Int)) (.int .u8 (p.x2 : Int)) (.int .u8 (p.x3 : Int)) (.int .u8 (p.x4 : Int)) (.int .u8 (p.x5 : Int)) (.int .u8 (p.x6 : Int)) (.int .u8 (p.x7 : Int))
        generalize ((((((((u4.setCell ⟨b9, 0, none⟩ (.int .u8 (p.x0 : Int))).setCell ⟨b9, 1, none⟩ (.int .u8 (p.x1 : Int))).setCell ⟨b9, 2, none⟩ (.int .u8 (p.x2 : Int))).setCell ⟨b9, 3, none⟩ (.int .u8 (p.x3 : Int))).setCell ⟨b9, 4, none⟩ (.int .u8 (p.x4 : Int))).setCell ⟨b9, 5, none⟩ (.int .u8 (p.x5 : Int))).setCell ⟨b9, 6, none⟩ (.int .u8 (p.x6 : Int))).setCell ⟨b9, 7, none⟩ (.int .u8 (p.x7 : Int))) = u5 at *
        have HB5 := Lib.hid h8
        have HX5 := Lib.hid ((hg8.block _ (block_lt HX4.out) (by intro e; injection e with e; omega)).trans HX4.out)
        have Hw5 := Lib.hid (Hw4.out.grown hg8 Hw4.out.size (fun k hk => by injection hk with hk; omega))
        rw [← Hst2.out] at HB5
        clear h8 hg8
        go_roundw
        case rel => exact ⟨k + 1, Hk.out, by go_num, by rw [← Hxs.out]; go_num, HB5.out, HX5.out, Hw5.out⟩
        case measure => have := Hk.out; simp [RowKit.intOf]; omega
    · obtain rfl : k = n := by omega
      have hd1 : decide ((k : Int) < (k : Int)) = false := by simp
      have htk : pl.take k = pl := List.take_of_length_le (by rw [Hl.out]; exact Nat.le_refl _)
      rw [htk] at HB
      have Hp : Hid (topD (upD u0 i pl) k = wayD i d pl) := Lib.hid (by rw [Hu0.out]; unfold wayD; rw [Hl.out])
      have Huo := Lib.hid (upD_ok Hlo.out pl i)
      generalize upD u0 i pl = u at *
      obtain ⟨zf, r0, r1, r2, r3, r4, r5, r6, r7⟩ := free8 HB.out
      have hl9 := block_lt HB.out
      clear zf hlt hk
      go_wp2_with fail
      refine (top_any u k wr Huo.out (by omega)).mono ?_
      rintro e v3 ⟨rfl, hb3⟩
      have hx := block_below HX.out hb3 (block_lt HX.out); have hw := Hw.out.trans (hb3.mono Hw.out.size)
      have Hbx := Lib.hid hx; have Hbw := Lib.hid hw
      rw [Hp.out]
      generalize hp2 : wayD i d pl = p at *
      have Hp2 := Lib.hid hp2
      clear r0 r1 r2 r3 r4 r5 r6 r7 hp2
      obtain ⟨zf, r0, r1, r2, r3, r4, r5, r6, r7⟩ := free8 hx
      clear hb3 hx hw HB HX Hw
      go_wp2
      clear zf r0 r1 r2 r3 r4 r5 r6 r7
      have h8 := set8 Hbx.out (.int .u8 (p.x0 : Int)) (.int .u8 (p.x1 : Int)) (.int .u8 (p.x2 : Int)) (.int .u8 (p.x3 : Int)) (.int .u8 (p.x4 : Int)) (.int .u8 (p.x5 : Int)) (.int .u8 (p.x6 : Int)) (.int .u8 (p.x7 : Int))
      have hg8 := grown_set8 v3 (w.heap.size + 1) (.int .u8 (p.x0 : Int)) (.int .u8 (p.x1 : Int)) (.int .u8 (p.x2 : Int)) (.int .u8 (p.x3 : Int)) (.int .u8 (p.x4 : Int)) (.int .u8 (p.x5 : Int)) (.int .u8 (p.x6 : Int)) (.int .u8 (p.x7 : Int))
      generalize ((((((((v3.setCell ⟨w.heap.size + 1, 0, none⟩ (.int .u8 (p.x0 : Int))).setCell ⟨w.heap.size + 1, 1, none⟩ (.int .u8 (p.x1 : Int))).setCell ⟨w.heap.size + 1, 2, none⟩ (.int .u8 (p.x2 : Int))).setCell ⟨w.heap.size + 1, 3, none⟩ (.int .u8 (p.x3 : Int))).setCell ⟨w.heap.size + 1, 4, none⟩ (.int .u8 (p.x4 : Int))).setCell ⟨w.heap.size + 1, 5, none⟩ (.int .u8 (p.x5 : Int))).setCell ⟨w.heap.size + 1, 6, none⟩ (.int .u8 (p.x6 : Int))).setCell ⟨w.heap.size + 1, 7, none⟩ (.int .u8 (p.x7 : Int))) = v4 at *
      obtain ⟨zf, r0, r1, r2, r3, r4, r5, r6, r7⟩ := free8 h8
      have Hb2 := Lib.hid (Hbw.out.grown hg8 Hbw.out.size (fun k hk => by injection hk with hk; omega))
      clear h8 hg8
      refine bodyPost_ret (v := .tuple #[.agg #[.int .u8 (p.x0 : Int), .int .u8 (p.x1 : Int), .int .u8 (p.x2 : Int), .int .u8 (p.x3 : Int), .int .u8 (p.x4 : Int), .int .u8 (p.x5 : Int), .int .u8 (p.x6 : Int), .int .u8 (p.x7 : Int)], .bool true]) (by simp [results, Tryz.results89, go_sem, r0, r1, r2, r3, r4, r5, r6, r7]) rfl ⟨by rw [Hp2.out], Hb2.out⟩
end Go.Proofs.YthjpaclcoipocaaGreat
namespace Go.Proofs.YthjpaclcoipocaaGreat
open Go.RowKit Go.Lib



theorem wayD_ok (i : Nat) (d : D8) (pl : List D8) : (wayD i d pl).ok := topD_ok _ _
set_option maxRecDepth 100000 in
set_option maxHeartbeats 4000000 in
theorem check_any (r : D8) (i : Nat) (d : D8) (A : Option Addr) (n c : Nat) (pl : List D8) (w : World) (hd : d.ok) (hr : Rd w w.heap.size 8 A n (flatD pl)) (hok : ∀ x ∈ pl, x.ok) (hn : n ≤ 8) (hi : i < 2 ^ n) :
    Calls Tryz.prog 85 #[.agg #[.int .u8 (r.x0 : Int), .int .u8 (r.x1 : Int), .int .u8 (r.x2 : Int), .int .u8 (r.x3 : Int), .int .u8 (r.x4 : Int), .int .u8 (r.x5 : Int), .int .u8 (r.x6 : Int), .int .u8 (r.x7 : Int)], .int .i64 (i : Int), .agg #[.int .u8 (d.x0 : Int), .int .u8 (d.x1 : Int), .int .u8 (d.x2 : Int), .int .u8 (d.x3 : Int), .int .u8 (d.x4 : Int), .int .u8 (d.x5 : Int), .int .u8 (d.x6 : Int), .int .u8 (d.x7 : Int)], .slice A n c] w fun e w' => e = .returned (.bool (sameD (wayD i d pl) r)) ∧ Below w.heap.size w w' := by
  obtain ⟨hr0, hd0, hw0, hz0⟩ := alloc2 w (.cells #[.int .u8 (r.x0 : Int), .int .u8 (r.x1 : Int), .int .u8 (r.x2 : Int), .int .u8 (r.x3 : Int), .int .u8 (r.x4 : Int), .int .u8 (r.x5 : Int), .int .u8 (r.x6 : Int), .int .u8 (r.x7 : Int)] 30) (.cells #[.int .u8 (d.x0 : Int), .int .u8 (d.x1 : Int), .int .u8 (d.x2 : Int), .int .u8 (d.x3 : Int), .int .u8 (d.x4 : Int), .int .u8 (d.x5 : Int), .int .u8 (d.x6 : Int), .int .u8 (d.x7 : Int)] 30)
  have HW := Lib.hid (fun (u : World) (hb : Below w.heap.size w u) => with_any i d A n c pl u hd ((hr.below hb (Nat.le_refl _)).more hb.size) hok hn hi)
  have HR0 := Lib.hid hr0; have HD0 := Lib.hid hd0; have Hw0 := Lib.hid hw0
  clear hr0 hd0 hw0 hz0 hd hr hok hi
  go_enter Tryz.func85, Tryz.ntmps85
  go_upto_region 1 with fail
  generalize (w.alloc (.cells #[.int .u8 (r.x0 : Int), .int .u8 (r.x1 : Int), .int .u8 (r.x2 : Int), .int .u8 (r.x3 : Int), .int .u8 (r.x4 : Int), .int .u8 (r.x5 : Int), .int .u8 (r.x6 : Int), .int .u8 (r.x7 : Int)] 30)).alloc (.cells #[.int .u8 (d.x0 : Int), .int .u8 (d.x1 : Int), .int .u8 (d.x2 : Int), .int .u8 (d.x3 : Int), .int .u8 (d.x4 : Int), .int .u8 (d.x5 : Int), .int .u8 (d.x6 : Int), .int .u8 (d.x7 : Int)] 30) = v0 at *
  obtain ⟨zf, r0, r1, r2, r3, r4, r5, r6, r7⟩ := free8 HD0.out
  have hl0 := block_lt HD0.out
  clear zf
  go_wp2_with fail
  refine (HW.out v0 Hw0.out).mono ?_
  rintro e v1 ⟨rfl, hb1⟩
  have HR1 := Lib.hid (block_below HR0.out hb1 (block_lt HR0.out)); have Hw1 := Lib.hid (Hw0.out.trans (hb1.mono Hw0.out.size))
  generalize hq : wayD i d pl = q at *
  have Hq := Lib.hid hq
  clear hq
  have HQ2 : Hid ((v1.alloc (.cells #[.int .u8 (q.x0 : Int), .int .u8 (q.x1 : Int), .int .u8 (q.x2 : Int), .int .u8 (q.x3 : Int), .int .u8 (q.x4 : Int), .int .u8 (q.x5 : Int), .int .u8 (q.x6 : Int), .int .u8 (q.x7 : Int)] 30)).heap[v1.heap.size]? = some (.cells #[.int .u8 (q.x0 : Int), .int .u8 (q.x1 : Int), .int .u8 (q.x2 : Int), .int .u8 (q.x3 : Int), .int .u8 (q.x4 : Int), .int .u8 (q.x5 : Int), .int .u8 (q.x6 : Int), .int .u8 (q.x7 : Int)] 30 (0, 0))) := heap_alloc_new v1 _
  have HR2 := Lib.hid (block_alloc HR1.out (.cells #[.int .u8 (q.x0 : Int), .int .u8 (q.x1 : Int), .int .u8 (q.x2 : Int), .int .u8 (q.x3 : Int), .int .u8 (q.x4 : Int), .int .u8 (q.x5 : Int), .int .u8 (q.x6 : Int), .int .u8 (q.x7 : Int)] 30)); have Hw2 := Lib.hid (Hw1.out.alloc Hw1.out.size (.cells #[.int .u8 (q.x0 : Int), .int .u8 (q.x1 : Int), .int .u8 (q.x2 : Int), .int .u8 (q.x3 : Int), .int .u8 (q.x4 : Int), .int .u8 (q.x5 : Int), .int .u8 (q.x6 : Int), .int .u8 (q.x7 : Int)] 30))
  clear r0 r1 r2 r3 r4 r5 r6 r7 hb1 HR0 HD0 Hw0 HR1 Hw1 HW hl0
  go_upto_region 2 with fail
  generalize v1.alloc (.cells #[.int .u8 (q.x0 : Int), .int .u8 (q.x1 : Int), .int .u8 (q.x2 : Int), .int .u8 (q.x3 : Int), .int .u8 (q.x4 : Int), .int .u8 (q.x5 : Int), .int .u8 (q.x6 : Int), .int .u8 (q.x7 : Int)] 30) = v2 at *
  generalize v1.heap.size = bq at *
  have hG : ∀ (x y : Operand) u, (eqGuard .eql 30 x y (.agg #[.int .u8 (q.x0 : Int), .int .u8 (q.x1 : Int), .int .u8 (q.x2 : Int), .int .u8 (q.x3 : Int), .int .u8 (q.x4 : Int), .int .u8 (q.x5 : Int), .int .u8 (q.x6 : Int), .int .u8 (q.x7 : Int)]) (.agg #[.int .u8 (r.x0 : Int), .int .u8 (r.x1 : Int), .int .u8 (r.x2 : Int), .int .u8 (r.x3 : Int), .int .u8 (r.x4 : Int), .int .u8 (r.x5 : Int), .int .u8 (r.x6 : Int), .int .u8 (r.x7 : Int)])).run Tryz.prog u = .ok () u := fun x y u => by first | (go_simp; done) | exact run_eqGuard_agg _ _ _ _ _ _ (by kernel_rfl)
  have hE : ∀ u, (binOp .eql 30 (.agg #[.int .u8 (q.x0 : Int), .int .u8 (q.x1 : Int), .int .u8 (q.x2 : Int), .int .u8 (q.x3 : Int), .int .u8 (q.x4 : Int), .int .u8 (q.x5 : Int), .int .u8 (q.x6 : Int), .int .u8 (q.x7 : Int)]) (.agg #[.int .u8 (r.x0 : Int), .int .u8 (r.x1 : Int), .int .u8 (r.x2 : Int), .int .u8 (r.x3 : Int), .int .u8 (r.x4 : Int), .int .u8 (r.x5 : Int), .int .u8 (r.x6 : Int), .int .u8 (r.x7 : Int)])).run Tryz.prog u = .ok (.bool (sameD q r)) u := fun u => eql_dig _ _ _ _ _ _ _ _ _ _ _ _ _ _ _ _ u
  refine wp_region_list ?_
  refine wpList_val (.bool true) (by kernel_rfl) (exec_move (by rfl) (by rfl)) ?_
  simp only [Act.put, List.setIfInBounds_toArray, List.set_cons_zero, List.set_cons_succ]
  refine wpList_val (.bool true) (by kernel_rfl) (exec_move (by rfl) (by rfl)) ?_
  simp only [Act.put, List.setIfInBounds_toArray, List.set_cons_zero, List.set_cons_succ]
  refine wpList_val (.agg #[.int .u8 (q.x0 : Int), .int .u8 (q.x1 : Int), .int .u8 (q.x2 : Int), .int .u8 (q.x3 : Int), .int .u8 (q.x4 : Int), .int .u8 (q.x5 : Int), .int .u8 (q.x6 : Int), .int .u8 (q.x7 : Int)]) (by kernel_rfl) (exec_load (by rfl) (by rfl) (load_dig v2 bq q HQ2.out)) ?_
  simp only [Act.put, List.setIfInBounds_toArray, List.set_cons_zero, List.set_cons_succ]
  refine wpList_val (.agg #[.int .u8 (r.x0 : Int), .int .u8 (r.x1 : Int), .int .u8 (r.x2 : Int), .int .u8 (r.x3 : Int), .int .u8 (r.x4 : Int), .int .u8 (r.x5 : Int), .int .u8 (r.x6 : Int), .int .u8 (r.x7 : Int)]) (by kernel_rfl) (exec_load (by rfl) (by rfl) (load_dig v2 w.heap.size r HR2.out)) ?_
  simp only [Act.put, List.setIfInBounds_toArray, List.set_cons_zero, List.set_cons_succ]
  refine wpList_val (.bool (sameD q r)) (by kernel_rfl) (exec_binD (by rfl) (by rfl) (by rfl) (hG _ _ v2) (hE v2)) ?_
  simp only [Act.put, List.setIfInBounds_toArray, List.set_cons_zero, List.set_cons_succ]
  clear hG hE
  generalize hsb : sameD q r = sb at *
  have Hsb := Lib.hid hsb
  clear hsb
  go_wp2
  go_ret
  exact ⟨ret_bool (by rw [Hq.out, Hsb.out]), Hw2.out⟩
set_option maxRecDepth 100000 in
set_option maxHeartbeats 4000000 in
theorem piece_any (A : Option Addr) (n c k : Nat) (l : List Nat) (w : World) (hr : Rd w w.heap.size 1 A n (bv l)) (hc : n ≤ c) (hk : k * 8 + 8 ≤ n) (hk2 : k ≤ 1000) :
    Calls Tryz.prog 88 #[.slice A n c, .int .i64 (k : Int)] w fun e w' => e = .returned (.agg #[.int .u8 ((chunk l k).x0 : Int), .int .u8 ((chunk l k).x1 : Int), .int .u8 ((chunk l k).x2 : Int), .int .u8 ((chunk l k).x3 : Int), .int .u8 ((chunk l k).x4 : Int), .int .u8 ((chunk l k).x5 : Int), .int .u8 ((chunk l k).x6 : Int), .int .u8 ((chunk l k).x7 : Int)]) ∧ Below w.heap.size w w' := by
  have HX0 : Hid ((w.alloc (.cells #[.int .u8 0, .int .u8 0, .int .u8 0, .int .u8 0, .int .u8 0, .int .u8 0, .int .u8 0, .int .u8 0] 30)).heap[w.heap.size]? = some (.cells #[.int .u8 0, .int .u8 0, .int .u8 0, .int .u8 0, .int .u8 0, .int .u8 0, .int .u8 0, .int .u8 0] 30 (0, 0))) := heap_alloc_new w _
  have Hw0 := Lib.hid (h_one w (.cells #[.int .u8 0, .int .u8 0, .int .u8 0, .int .u8 0, .int .u8 0, .int .u8 0, .int .u8 0, .int .u8 0] 30))
  have Hr := Lib.hid ((hr.below Hw0.out (Nat.le_refl _)).more Hw0.out.size)
  clear hr
  go_enter Tryz.func88, Tryz.ntmps88
  go_upto_region 1 with fail
  generalize w.alloc (.cells #[.int .u8 0, .int .u8 0, .int .u8 0, .int .u8 0, .int .u8 0, .int .u8 0, .int .u8 0, .int .u8 0] 30) = v0 at *
  obtain ⟨b, o, hsl, x0, x1, x2, x3, x4, x5, x6, x7⟩ := slice8 Hr.out hc hk
  have e1 : (k : Int) * 8 + 8 = ((k : Int) + 1) * 8 := by omega
  rw [e1] at hsl
  have hra := run_arr
  obtain ⟨zf, r0, r1, r2, r3, r4, r5, r6, r7⟩ := free8 HX0.out
  generalize hp : chunk l k = p at *
  have Hp := Lib.hid hp
  have Hbx := Lib.hid HX0.out; have Hbw := Lib.hid Hw0.out
  clear hp e1 Hr HX0 Hw0
  go_wp2
  clear zf r0 r1 r2 r3 r4 r5 r6 r7
  have h8 := set8 Hbx.out (.int .u8 (p.x0 : Int)) (.int .u8 (p.x1 : Int)) (.int .u8 (p.x2 : Int)) (.int .u8 (p.x3 : Int)) (.int .u8 (p.x4 : Int)) (.int .u8 (p.x5 : Int)) (.int .u8 (p.x6 : Int)) (.int .u8 (p.x7 : Int))
  have hg8 := grown_set8 v0 (w.heap.size) (.int .u8 (p.x0 : Int)) (.int .u8 (p.x1 : Int)) (.int .u8 (p.x2 : Int)) (.int .u8 (p.x3 : Int)) (.int .u8 (p.x4 : Int)) (.int .u8 (p.x5 : Int)) (.int .u8 (p.x6 : Int)) (.int .u8 (p.x7 : Int))
  generalize ((((((((v0.setCell ⟨w.heap.size, 0, none⟩ (.int .u8 (p.x0 : Int))).setCell ⟨w.heap.size, 1, none⟩ (.int .u8 (p.x1 : Int))).setCell ⟨w.heap.size, 2, none⟩ (.int .u8 (p.x2 : Int))).setCell ⟨w.heap.size, 3, none⟩ (.int .u8 (p.x3 : Int))).setCell ⟨w.heap.size, 4, none⟩ (.int .u8 (p.x4 : Int))).setCell ⟨w.heap.size, 5, none⟩ (.int .u8 (p.x5 : Int))).setCell ⟨w.heap.size, 6, none⟩ (.int .u8 (p.x6 : Int))).setCell ⟨w.heap.size, 7, none⟩ (.int .u8 (p.x7 : Int))) = v1 at *
  obtain ⟨zf, r0, r1, r2, r3, r4, r5, r6, r7⟩ := free8 h8
  have Hb2 := Lib.hid (Hbw.out.grown hg8 Hbw.out.size (fun k hk => by injection hk with hk; omega))
  clear h8 hg8
  refine bodyPost_ret (v := .agg #[.int .u8 (p.x0 : Int), .int .u8 (p.x1 : Int), .int .u8 (p.x2 : Int), .int .u8 (p.x3 : Int), .int .u8 (p.x4 : Int), .int .u8 (p.x5 : Int), .int .u8 (p.x6 : Int), .int .u8 (p.x7 : Int)]) (by simp [results, Tryz.results88, go_sem, r0, r1, r2, r3, r4, r5, r6, r7]) rfl ⟨by rw [Hp.out], Hb2.out⟩
set_option maxRecDepth 100000 in
set_option maxHeartbeats 4000000 in
theorem keyT_any (E : Nat → D8) (hE : ∀ c, (E c).ok) (pb gb : Nat) (w : World)
    (hcl : ∀ u (c : Nat), c < 18 → Below w.heap.size w u → Calls Tryz.prog 87 #[.int .i64 (c : Int), .pointer (some ⟨pb, 0, none⟩), .pointer (some ⟨gb, 0, none⟩)] u fun e u' => e = .returned (.agg #[.int .u8 ((E c).x0 : Int), .int .u8 ((E c).x1 : Int), .int .u8 ((E c).x2 : Int), .int .u8 ((E c).x3 : Int), .int .u8 ((E c).x4 : Int), .int .u8 ((E c).x5 : Int), .int .u8 ((E c).x6 : Int), .int .u8 ((E c).x7 : Int)]) ∧ Below u.heap.size u u') :
    Calls Tryz.prog 30 #[.func (.func 87) #[] #[.pointer (some ⟨pb, 0, none⟩), .pointer (some ⟨gb, 0, none⟩)]] w fun e w' => e = .returned (.agg #[.int .u8 ((keyD E).x0 : Int), .int .u8 ((keyD E).x1 : Int), .int .u8 ((keyD E).x2 : Int), .int .u8 ((keyD E).x3 : Int), .int .u8 ((keyD E).x4 : Int), .int .u8 ((keyD E).x5 : Int), .int .u8 ((keyD E).x6 : Int), .int .u8 ((keyD E).x7 : Int)]) ∧ Below w.heap.size w w' := by
  have HE := Lib.hid hE; have HC := Lib.hid hcl
  have HX0 : Hid ((w.alloc (.cells #[.int .u8 0, .int .u8 0, .int .u8 0, .int .u8 0, .int .u8 0, .int .u8 0, .int .u8 0, .int .u8 0] 30)).heap[w.heap.size]? = some (.cells #[.int .u8 0, .int .u8 0, .int .u8 0, .int .u8 0, .int .u8 0, .int .u8 0, .int .u8 0, .int .u8 0] 30 (0, 0))) := heap_alloc_new w _
  have Hw0 := Lib.hid (h_one w (.cells #[.int .u8 0, .int .u8 0, .int .u8 0, .int .u8 0, .int .u8 0, .int .u8 0, .int .u8 0, .int .u8 0] 30))
  clear hE hcl
  go_enter Tryz.func30, Tryz.ntmps30
  go_upto_region 1 with fail
  generalize w.alloc (.cells #[.int .u8 0, .int .u8 0, .int .u8 0, .int .u8 0, .int .u8 0, .int .u8 0, .int .u8 0, .int .u8 0] 30) = v0 at *
  have HR1 : Hid (DRow (newD v0 18) v0.heap.size 18 (rowK E 0 18)) := by rw [rowK_zero]; exact newD_row v0 18
  have HX1 : Hid ((newD v0 18).heap[w.heap.size]? = some (.cells #[.int .u8 0, .int .u8 0, .int .u8 0, .int .u8 0, .int .u8 0, .int .u8 0, .int .u8 0, .int .u8 0] 30 (0, 0))) := newD_block HX0.out
  have Hw1 := Lib.hid (Hw0.out.trans ((newD_below v0 18).mono Hw0.out.size))
  have hz1 : w.heap.size < v0.heap.size := block_lt HX0.out
  have hmk0 : (Instr.makeSlice 66 (.int .i64 18) (.int .i64 18)).run Tryz.prog v0 = .ok (.slice (some ⟨v0.heap.size, 0, none⟩) 18 18) (newD v0 18) := make_dig 18 (by decide) v0
  go_upto_region 2 with (rw [hmk0]; simp only [Result.andThen_ok])
  generalize newD v0 18 = v1 at *
  generalize v0.heap.size = g at *
  clear hmk0 HX0 Hw0
  go_wp2
  go_loopw [8] (fun i wr => ∃ k : Nat, k ≤ 18 ∧ i = .int .i64 (k : Int) ∧ DRow wr g 18 (rowK E k 18) ∧ wr.heap[w.heap.size]? = some (.cells #[.int .u8 0, .int .u8 0, .int .u8 0, .int .u8 0, .int .u8 0, .int .u8 0, .int .u8 0, .int .u8 0] 30 (0, 0)) ∧ Below w.heap.size w wr) (fun i _ => 18 - (RowKit.intOf i).toNat)
  case atStart => exact ⟨0, by omega, rfl, HR1.out, HX1.out, Hw1.out⟩
  case round =>
    obtain ⟨k, hk, rfl, hR, hX, hw⟩ := hrel
    have HR := Lib.hid hR; have HX := Lib.hid hX; have Hw := Lib.hid hw
    clear hR hX hw HR1 HX1 Hw1
    by_cases hlt : k < 18
    · have hd1 : decide ((k : Int) < 18) = true := decide_eq_true (by omega)
      have hki : (k : Int) < 18 := by omega
      have Hk := Lib.hid hlt
      have hcl := HC.out wr k hlt Hw.out
      have Hset := Lib.hid (rowK_set E k 18)
      generalize hq : E k = q at *
      have Hq := Lib.hid hq
      clear hq
      go_wp2_with fail
      refine hcl.mono ?_
      rintro e v2 ⟨rfl, hb2⟩
      have HR2 := Lib.hid (HR.out.below hb2); have HX2 := Lib.hid (block_below HX.out hb2 (block_lt HX.out)); have Hw2 := Lib.hid (Hw.out.trans (hb2.mono Hw.out.size))
      obtain ⟨zf, r0, r1, r2, r3, r4, r5, r6, r7⟩ := HR2.out.at8 Hk.out
      obtain ⟨h3, g3⟩ := HR2.out.setR Hk.out q
      rw [Hset.out] at h3
      have hlg := HR2.out.lt
      have HR3 := Lib.hid h3
      have HX3 := Lib.hid ((g3.block w.heap.size (block_lt HX2.out) (by intro e; injection e with e; omega)).trans HX2.out)
      have Hw3 := Lib.hid (Hw2.out.grown g3 Hw2.out.size (fun q hq => by injection hq with hq; omega))
      clear hcl hb2 HR HX Hw h3 g3 HR2 HX2 Hw2
      go_wp2
      go_roundw
      case rel => exact ⟨k + 1, Hk.out, by go_num, HR3.out, HX3.out, Hw3.out⟩
      case measure => have := Hk.out; simp [RowKit.intOf]; omega
    · obtain rfl : k = 18 := by omega
      have hd1 : decide (((18 : Nat) : Int) < 18) = false := by decide
      have hl : ((List.range 18).map E).length = 18 := by simp
      rw [rowK_full] at HR
      clear hlt hk HC
      go_wp2_with fail
      refine (many_any (some ⟨g, 0, none⟩) 18 18 ((List.range 18).map E) wr HR.out.rd (by
        intro x hx
        obtain ⟨c, _, rfl⟩ := List.mem_map.1 hx
        exact HE.out c) (by decide)).mono ?_
      rintro e v2 ⟨rfl, hb2⟩
      have Hbx := Lib.hid (block_below HX.out hb2 (block_lt HX.out)); have Hbw := Lib.hid (Hw.out.trans (hb2.mono Hw.out.size))
      have Hp : Hid (hashMany ((List.range 18).map E) = keyD E) := Lib.hid rfl
      obtain ⟨zf, r0, r1, r2, r3, r4, r5, r6, r7⟩ := free8 Hbx.out
      clear hb2 HR HX Hw
      generalize hashMany ((List.range 18).map E) = p at *
      go_wp2
      clear zf r0 r1 r2 r3 r4 r5 r6 r7
      have h8 := set8 Hbx.out (.int .u8 (p.x0 : Int)) (.int .u8 (p.x1 : Int)) (.int .u8 (p.x2 : Int)) (.int .u8 (p.x3 : Int)) (.int .u8 (p.x4 : Int)) (.int .u8 (p.x5 : Int)) (.int .u8 (p.x6 : Int)) (.int .u8 (p.x7 : Int))
      have hg8 := grown_set8 v2 (w.heap.size) (.int .u8 (p.x0 : Int)) (.int .u8 (p.x1 : Int)) (.int .u8 (p.x2 : Int)) (.int .u8 (p.x3 : Int)) (.int .u8 (p.x4 : Int)) (.int .u8 (p.x5 : Int)) (.int .u8 (p.x6 : Int)) (.int .u8 (p.x7 : Int))
      generalize ((((((((v2.setCell ⟨w.heap.size, 0, none⟩ (.int .u8 (p.x0 : Int))).setCell ⟨w.heap.size, 1, none⟩ (.int .u8 (p.x1 : Int))).setCell ⟨w.heap.size, 2, none⟩ (.int .u8 (p.x2 : Int))).setCell ⟨w.heap.size, 3, none⟩ (.int .u8 (p.x3 : Int))).setCell ⟨w.heap.size, 4, none⟩ (.int .u8 (p.x4 : Int))).setCell ⟨w.heap.size, 5, none⟩ (.int .u8 (p.x5 : Int))).setCell ⟨w.heap.size, 6, none⟩ (.int .u8 (p.x6 : Int))).setCell ⟨w.heap.size, 7, none⟩ (.int .u8 (p.x7 : Int))) = v3 at *
      obtain ⟨zf, r0, r1, r2, r3, r4, r5, r6, r7⟩ := free8 h8
      have Hb2 := Lib.hid (Hbw.out.grown hg8 Hbw.out.size (fun k hk => by injection hk with hk; omega))
      clear h8 hg8
      refine bodyPost_ret (v := .agg #[.int .u8 (p.x0 : Int), .int .u8 (p.x1 : Int), .int .u8 (p.x2 : Int), .int .u8 (p.x3 : Int), .int .u8 (p.x4 : Int), .int .u8 (p.x5 : Int), .int .u8 (p.x6 : Int), .int .u8 (p.x7 : Int)]) (by simp [results, Tryz.results30, go_sem, r0, r1, r2, r3, r4, r5, r6, r7]) rfl ⟨by rw [← Hp.out], Hb2.out⟩
def toldF (m : D8) (b : List Nat) (c : Nat) : D8 := chainD (chunk b c) (15 - (reachL m).getD c 0)
theorem toldF_ok (m : D8) {b : List Nat} (hb : ∀ x ∈ b, x < 256) (c : Nat) : (toldF m b c).ok := chainD_ok (chunk_ok hb c) _
theorem reachA_at {m : D8} {c : Nat} (hc : c < 18) : (reachA m)[c]? = some (.int .i64 (((reachL m).getD c 0 : Nat) : Int)) := by
  have hl : (reachL m).length = 18 := rfl
  unfold reachA
  rw [List.getElem?_toArray, List.getElem?_map, List.getElem?_eq_getElem (by omega)]
  simp [List.getD_eq_getElem?_getD, List.getElem?_eq_getElem (show c < (reachL m).length by omega)]
set_option maxRecDepth 100000 in
set_option maxHeartbeats 4000000 in
theorem told1_any (m : D8) (b : List Nat) (c pb gb : Nat) (A : Option Addr) (n cc : Nat) (w : World) (hm : m.ok) (hlt : ∀ x ∈ b, x < 256) (hc : c < 18) (hp : w.heap[pb]? = some (.cells #[.slice A n cc] 24 (0, 0))) (hgl : gb < w.heap.size) (hg : w.cell? ⟨gb, c, none⟩ = some (.int .i64 (((reachL m).getD c 0 : Nat) : Int)))
    (hr : Rd w w.heap.size 1 A n (bv b)) (hn : n = 144) (hcc : n ≤ cc) :
    Calls Tryz.prog 87 #[.int .i64 (c : Int), .pointer (some ⟨pb, 0, none⟩), .pointer (some ⟨gb, 0, none⟩)] w fun e w' => e = .returned (.agg #[.int .u8 ((toldF m b c).x0 : Int), .int .u8 ((toldF m b c).x1 : Int), .int .u8 ((toldF m b c).x2 : Int), .int .u8 ((toldF m b c).x3 : Int), .int .u8 ((toldF m b c).x4 : Int), .int .u8 ((toldF m b c).x5 : Int), .int .u8 ((toldF m b c).x6 : Int), .int .u8 ((toldF m b c).x7 : Int)]) ∧ Below w.heap.size w w' := by
  have HX0 : Hid ((w.alloc (.cells #[.int .u8 0, .int .u8 0, .int .u8 0, .int .u8 0, .int .u8 0, .int .u8 0, .int .u8 0, .int .u8 0] 30)).heap[w.heap.size]? = some (.cells #[.int .u8 0, .int .u8 0, .int .u8 0, .int .u8 0, .int .u8 0, .int .u8 0, .int .u8 0, .int .u8 0] 30 (0, 0))) := heap_alloc_new w _
  have Hw0 := Lib.hid (h_one w (.cells #[.int .u8 0, .int .u8 0, .int .u8 0, .int .u8 0, .int .u8 0, .int .u8 0, .int .u8 0, .int .u8 0] 30))
  have HR := Lib.hid ((hr.below Hw0.out (Nat.le_refl _)).more Hw0.out.size)
  have HP := Lib.hid ((block_cell (block_alloc hp (.cells #[.int .u8 0, .int .u8 0, .int .u8 0, .int .u8 0, .int .u8 0, .int .u8 0, .int .u8 0, .int .u8 0] 30)) 0).trans rfl : (w.alloc (.cells #[.int .u8 0, .int .u8 0, .int .u8 0, .int .u8 0, .int .u8 0, .int .u8 0, .int .u8 0, .int .u8 0] 30)).cell? ⟨pb, 0, none⟩ = some (.slice A n cc))
  have HG := Lib.hid ((Hw0.out.cell (p := ⟨gb, c, none⟩) hgl).trans hg)
  have hpl := block_lt hp
  have Hlt := Lib.hid hlt
  have hdg := reachD_le hm c
  clear hr hp hg hlt
  have hci : (c : Int) < 18 := by omega
  have hc0 : (0 : Int) ≤ (c : Int) := by omega
  have Hq : Hid (toldF m b c = chainD (chunk b c) (15 - (reachL m).getD c 0)) := Lib.hid rfl
  generalize (reachL m).getD c 0 = dg at *
  have e15 : (15 : Int) - (dg : Int) = ((15 - dg : Nat) : Int) := by omega
  have ew15 : IntKind.i64.wrap ((15 - dg : Nat) : Int) = ((15 - dg : Nat) : Int) := by rw [IntKind.wrap_i64]; omega
  subst hn
  have Hco := Lib.hid (chunk_ok Hlt.out c)
  go_enter Tryz.func87, Tryz.ntmps87
  go_upto_region 1 with fail
  have hpl0 : pb < (w.alloc (.cells #[.int .u8 0, .int .u8 0, .int .u8 0, .int .u8 0, .int .u8 0, .int .u8 0, .int .u8 0, .int .u8 0] 30)).heap.size := by simp; omega
  have hgl0 : gb < (w.alloc (.cells #[.int .u8 0, .int .u8 0, .int .u8 0, .int .u8 0, .int .u8 0, .int .u8 0, .int .u8 0, .int .u8 0] 30)).heap.size := by simp; omega
  generalize w.alloc (.cells #[.int .u8 0, .int .u8 0, .int .u8 0, .int .u8 0, .int .u8 0, .int .u8 0, .int .u8 0, .int .u8 0] 30) = v0 at *
  have hS : v0.cell? ⟨pb, 0, none⟩ = some (.slice A 144 cc) ∧ v0.cell? ⟨gb, c, none⟩ = some (.int .i64 (dg : Int)) := ⟨HP.out, HG.out⟩
  refine wp_region_held_drew (S := fun w' => w'.cell? ⟨pb, 0, none⟩ = some (.slice A 144 cc) ∧ w'.cell? ⟨gb, c, none⟩ = some (.int .i64 (dg : Int))) (by kernel_rfl) hS (fun hHeld => ?_)
  rw [show Array.replicate _ false = (#[false, false, false, false, false, false, false, false, false] : Array Bool) from rfl]
  refine takeH 0 (some 5) (v := ?_) rfl (by kernel_rfl) (by kernel_rfl) (by kernel_rfl) (by kernel_rfl) (fun _ _ _ h => h) (Or.inl ⟨by kernel_rfl, ?hy⟩) (by assumption) ?_
  case hy =>
    intro w' hSw
    try dsimp only at hSw
    obtain ⟨l1, l2⟩ := hSw
    first
      | (go_simp; done)
      | (go_simp; with_reducible rfl)
  simp only [Act.put, List.setIfInBounds_toArray, List.set_cons_zero, List.set_cons_succ]
  refine takeH 1 (some 6) (v := ?_) rfl (by kernel_rfl) (by kernel_rfl) (by kernel_rfl) (by kernel_rfl) (fun _ _ _ h => h) (Or.inl ⟨by kernel_rfl, ?hy⟩) (by assumption) ?_
  case hy =>
    intro w' hSw
    clear hSw
    first
      | (go_simp; done)
      | (go_simp; with_reducible rfl)
  simp only [Act.put, List.setIfInBounds_toArray, List.set_cons_zero, List.set_cons_succ]
  refine takeH 3 (some 8) (v := ?_) rfl (by kernel_rfl) (by kernel_rfl) (by kernel_rfl) (by kernel_rfl) (fun _ _ _ h => h) (Or.inl ⟨by kernel_rfl, ?hy⟩) (by assumption) ?_
  case hy =>
    intro w' hSw
    clear hSw
    first
      | (go_simp; done)
      | (go_simp; with_reducible rfl)
  simp only [Act.put, List.setIfInBounds_toArray, List.set_cons_zero, List.set_cons_succ]
  refine takeH 4 (some 9) (v := ?_) rfl (by kernel_rfl) (by kernel_rfl) (by kernel_rfl) (by kernel_rfl) (fun _ _ _ h => h) (Or.inl ⟨by kernel_rfl, ?hy⟩) (by assumption) ?_
  case hy =>
    intro w' hSw
    clear hSw
    first
      | (go_simp; done)
      | (go_simp; with_reducible rfl)
  simp only [Act.put, List.setIfInBounds_toArray, List.set_cons_zero, List.set_cons_succ]
  refine takeH 5 (some 10) (v := ?_) rfl (by kernel_rfl) (by kernel_rfl) (by kernel_rfl) (by kernel_rfl) (fun _ _ _ h => h) (Or.inl ⟨by kernel_rfl, ?hy⟩) (by assumption) ?_
  case hy =>
    intro w' hSw
    try dsimp only at hSw
    obtain ⟨l1, l2⟩ := hSw
    first
      | (go_simp; done)
      | (go_simp; with_reducible rfl)
  simp only [Act.put, List.setIfInBounds_toArray, List.set_cons_zero, List.set_cons_succ]
  refine takeH 6 (some 11) (v := ?_) rfl (by kernel_rfl) (by kernel_rfl) (by kernel_rfl) (by kernel_rfl) (fun _ _ _ h => h) (Or.inl ⟨by kernel_rfl, ?hy⟩) (by assumption) ?_
  case hy =>
    intro w' hSw
    clear hSw
    first
      | (go_simp; done)
      | (go_simp; with_reducible rfl)
  simp only [Act.put, List.setIfInBounds_toArray, List.set_cons_zero, List.set_cons_succ]
  have hq := (Below.refl v0.heap.size v0).drew
  have HRd := Lib.hid ((HR.out.below hq (Nat.le_refl _)).more hq.size)
  refine wpAnyH_ready (rs := [2]) (by kernel_rfl) (by simp) ?_
  refine AllReadyH.cons rfl (fun K hK => ?_) AllReadyH.nil
  rw [if_pos (by kernel_rfl)]
  go_simp
  refine (piece_any A 144 cc c b v0.drew HRd.out hcc (by omega) (by omega)).mono ?_
  rintro e v1 ⟨rfl, hb0⟩
  have hb := hq.trans hb0
  have hS1 : v1.cell? ⟨pb, 0, none⟩ = some (.slice A 144 cc) ∧ v1.cell? ⟨gb, c, none⟩ = some (.int .i64 (dg : Int)) := ⟨(hb.cell (p := ⟨pb, 0, none⟩) hpl0).trans HP.out, (hb.cell (p := ⟨gb, c, none⟩) hgl0).trans HG.out⟩
  have HX1 := Lib.hid (block_below HX0.out hb (block_lt HX0.out)); have Hw1 := Lib.hid (Hw0.out.trans (hb.mono Hw0.out.size))
  have hs1 := hb.size
  clear hb hb0 hq HX0 Hw0 HR
  refine hK.out _ _ hS1 (fun _ => ?_)
  clear hK K
  simp only [List.setIfInBounds_toArray, List.set_cons_zero, List.set_cons_succ]
  generalize hch : chunk b c = ck at *
  clear hch
  refine wpAnyH_ready (rs := [7]) (by kernel_rfl) (by simp) ?_
  refine AllReadyH.cons rfl (fun K hK => ?_) AllReadyH.nil
  rw [if_pos (by kernel_rfl)]
  go_simp
  refine (chain_any ck (15 - dg) v1 Hco.out (by omega)).mono ?_
  rintro e v2 ⟨rfl, hb⟩
  have hS2 : v2.cell? ⟨pb, 0, none⟩ = some (.slice A 144 cc) ∧ v2.cell? ⟨gb, c, none⟩ = some (.int .i64 (dg : Int)) := ⟨(hb.cell (p := ⟨pb, 0, none⟩) (Nat.lt_of_lt_of_le hpl0 hs1)).trans hS1.1, (hb.cell (p := ⟨gb, c, none⟩) (Nat.lt_of_lt_of_le hgl0 hs1)).trans hS1.2⟩
  have hx := block_below HX1.out hb (block_lt HX1.out); have hw := Hw1.out.trans (hb.mono Hw1.out.size)
  rw [← Hq.out]
  clear hb hS1 HX1 Hw1
  refine hK.out _ _ hS2 (fun _ => ?_)
  clear hK K
  simp only [List.setIfInBounds_toArray, List.set_cons_zero, List.set_cons_succ]
  generalize hp2 : toldF m b c = p at *
  have Hp2 := Lib.hid hp2
  clear hp2
  have Hbx := Lib.hid hx; have Hbw := Lib.hid hw
  obtain ⟨zf, r0, r1, r2, r3, r4, r5, r6, r7⟩ := free8 hx
  clear hx hw
  refine wpAnyH_ready (rs := [8]) (by kernel_rfl) (by simp) ?_
  refine AllReadyH.cons rfl (fun K hK => ?_) AllReadyH.nil
  rw [if_pos (by kernel_rfl)]
  go_simp
  have hg3 := grown_set8 v2 w.heap.size (.int .u8 (p.x0 : Int)) (.int .u8 (p.x1 : Int)) (.int .u8 (p.x2 : Int)) (.int .u8 (p.x3 : Int)) (.int .u8 (p.x4 : Int)) (.int .u8 (p.x5 : Int)) (.int .u8 (p.x6 : Int)) (.int .u8 (p.x7 : Int))
  refine hK.out _ _ ⟨hg3.cell hS2.1 (by show some pb ≠ some w.heap.size; intro e; injection e with e; omega), hg3.cell hS2.2 (by show some gb ≠ some w.heap.size; intro e; injection e with e; omega)⟩ (fun _ => ?_)
  clear hK K hg3 hS2
  refine wpAnyH_done (by kernel_rfl) ?_ _
  go_wp2
  clear zf r0 r1 r2 r3 r4 r5 r6 r7
  have h8 := set8 Hbx.out (.int .u8 (p.x0 : Int)) (.int .u8 (p.x1 : Int)) (.int .u8 (p.x2 : Int)) (.int .u8 (p.x3 : Int)) (.int .u8 (p.x4 : Int)) (.int .u8 (p.x5 : Int)) (.int .u8 (p.x6 : Int)) (.int .u8 (p.x7 : Int))
  have hg8 := grown_set8 v2 (w.heap.size) (.int .u8 (p.x0 : Int)) (.int .u8 (p.x1 : Int)) (.int .u8 (p.x2 : Int)) (.int .u8 (p.x3 : Int)) (.int .u8 (p.x4 : Int)) (.int .u8 (p.x5 : Int)) (.int .u8 (p.x6 : Int)) (.int .u8 (p.x7 : Int))
  generalize ((((((((v2.setCell ⟨w.heap.size, 0, none⟩ (.int .u8 (p.x0 : Int))).setCell ⟨w.heap.size, 1, none⟩ (.int .u8 (p.x1 : Int))).setCell ⟨w.heap.size, 2, none⟩ (.int .u8 (p.x2 : Int))).setCell ⟨w.heap.size, 3, none⟩ (.int .u8 (p.x3 : Int))).setCell ⟨w.heap.size, 4, none⟩ (.int .u8 (p.x4 : Int))).setCell ⟨w.heap.size, 5, none⟩ (.int .u8 (p.x5 : Int))).setCell ⟨w.heap.size, 6, none⟩ (.int .u8 (p.x6 : Int))).setCell ⟨w.heap.size, 7, none⟩ (.int .u8 (p.x7 : Int))) = v3 at *
  obtain ⟨zf, r0, r1, r2, r3, r4, r5, r6, r7⟩ := free8 h8
  have Hb2 := Lib.hid (Hbw.out.grown hg8 Hbw.out.size (fun k hk => by injection hk with hk; omega))
  clear h8 hg8
  refine bodyPost_ret (v := .agg #[.int .u8 (p.x0 : Int), .int .u8 (p.x1 : Int), .int .u8 (p.x2 : Int), .int .u8 (p.x3 : Int), .int .u8 (p.x4 : Int), .int .u8 (p.x5 : Int), .int .u8 (p.x6 : Int), .int .u8 (p.x7 : Int)]) (by simp [results, Tryz.results87, go_sem, r0, r1, r2, r3, r4, r5, r6, r7]) rfl ⟨by rw [Hp2.out], Hb2.out⟩
set_option maxRecDepth 100000 in
set_option maxHeartbeats 4000000 in
theorem told_sig_any (m : D8) (b : List Nat) (A : Option Addr) (n cc : Nat) (w : World) (hm : m.ok) (hlt : ∀ x ∈ b, x < 256) (hr : Rd w w.heap.size 1 A n (bv b)) (hn : n = 144) (hcc : n ≤ cc) :
    Calls Tryz.prog 84 #[.agg #[.int .u8 (m.x0 : Int), .int .u8 (m.x1 : Int), .int .u8 (m.x2 : Int), .int .u8 (m.x3 : Int), .int .u8 (m.x4 : Int), .int .u8 (m.x5 : Int), .int .u8 (m.x6 : Int), .int .u8 (m.x7 : Int)], .slice A n cc] w fun e w' => e = .returned (.tuple #[.agg #[.int .u8 ((toldD m b).x0 : Int), .int .u8 ((toldD m b).x1 : Int), .int .u8 ((toldD m b).x2 : Int), .int .u8 ((toldD m b).x3 : Int), .int .u8 ((toldD m b).x4 : Int), .int .u8 ((toldD m b).x5 : Int), .int .u8 ((toldD m b).x6 : Int), .int .u8 ((toldD m b).x7 : Int)], .bool true]) ∧ Below w.heap.size w w' := by
  obtain ⟨hm0, hs0, hx0, hw0, hz0⟩ := alloc3 w (.cells #[.int .u8 (m.x0 : Int), .int .u8 (m.x1 : Int), .int .u8 (m.x2 : Int), .int .u8 (m.x3 : Int), .int .u8 (m.x4 : Int), .int .u8 (m.x5 : Int), .int .u8 (m.x6 : Int), .int .u8 (m.x7 : Int)] 30) (.cells #[.slice A n cc] 24) (.cells #[.int .u8 0, .int .u8 0, .int .u8 0, .int .u8 0, .int .u8 0, .int .u8 0, .int .u8 0, .int .u8 0] 30)
  have HM0 := Lib.hid hm0; have HS0 := Lib.hid hs0; have HX0 := Lib.hid hx0; have Hw0 := Lib.hid hw0; have Hz0 := Lib.hid hz0
  have Hm := Lib.hid hm; have Hlt := Lib.hid hlt; have Hr := Lib.hid hr
  clear hm0 hs0 hx0 hw0 hz0 hm hlt hr
  subst hn
  go_enter Tryz.func84, Tryz.ntmps84
  go_upto_region 1 with fail
  generalize ((w.alloc (.cells #[.int .u8 (m.x0 : Int), .int .u8 (m.x1 : Int), .int .u8 (m.x2 : Int), .int .u8 (m.x3 : Int), .int .u8 (m.x4 : Int), .int .u8 (m.x5 : Int), .int .u8 (m.x6 : Int), .int .u8 (m.x7 : Int)] 30)).alloc (.cells #[.slice A 144 cc] 24)).alloc (.cells #[.int .u8 0, .int .u8 0, .int .u8 0, .int .u8 0, .int .u8 0, .int .u8 0, .int .u8 0, .int .u8 0] 30) = v0 at *
  have c0 : v0.cell? ⟨w.heap.size + 1, 0, none⟩ = some (.slice A 144 cc) := (block_cell HS0.out 0).trans rfl
  have hl1 := block_lt HS0.out
  have hl0 := block_lt HM0.out
  obtain ⟨zf, r0, r1, r2, r3, r4, r5, r6, r7⟩ := free8 HM0.out
  clear zf
  go_wp2_with fail
  refine (reach_any m v0 Hm.out).mono ?_
  rintro e v1 ⟨rfl, hb1⟩
  have HS1 := Lib.hid (block_below HS0.out hb1 hl1); have HX1 := Lib.hid (block_below HX0.out hb1 (block_lt HX0.out)); have Hw1 := Lib.hid (Hw0.out.trans (hb1.mono Hw0.out.size))
  clear r0 r1 r2 r3 r4 r5 r6 r7 hb1 HM0 HS0 HX0 Hw0 c0 hl0 hl1
  have hsz : (reachA m).size = 18 := rfl
  have hra := reachA_one m
  have Hat := Lib.hid (fun c (hc : c < 18) => reachA_at (m := m) hc)
  generalize reachA m = ra at *
  have HD2 : Hid ((v1.alloc (.cells (reachK m 0) 141)).heap[v1.heap.size]? = some (.cells (reachK m 0) 141 (0, 0))) := heap_alloc_new v1 _
  have HS2 := Lib.hid (block_alloc HS1.out (.cells (reachK m 0) 141)); have HX2 := Lib.hid (block_alloc HX1.out (.cells (reachK m 0) 141)); have Hw2 := Lib.hid (Hw1.out.alloc Hw1.out.size (.cells (reachK m 0) 141))
  rw [reachK_zero] at HD2 HS2 HX2 Hw2
  have hth := there_row HD2.out
  have hgz : v1.heap.size < (v1.alloc (.cells #[.int .i64 0, .int .i64 0, .int .i64 0, .int .i64 0, .int .i64 0, .int .i64 0, .int .i64 0, .int .i64 0, .int .i64 0, .int .i64 0, .int .i64 0, .int .i64 0, .int .i64 0, .int .i64 0, .int .i64 0, .int .i64 0, .int .i64 0, .int .i64 0] 141)).heap.size := block_lt HD2.out
  have hg3 := grown_setCells (g := v1.heap.size) ra.toList 0 (v1.alloc (.cells #[.int .i64 0, .int .i64 0, .int .i64 0, .int .i64 0, .int .i64 0, .int .i64 0, .int .i64 0, .int .i64 0, .int .i64 0, .int .i64 0, .int .i64 0, .int .i64 0, .int .i64 0, .int .i64 0, .int .i64 0, .int .i64 0, .int .i64 0, .int .i64 0] 141))
  have hr3 := World.rangeAt_setCells_same (v1.alloc (.cells #[.int .i64 0, .int .i64 0, .int .i64 0, .int .i64 0, .int .i64 0, .int .i64 0, .int .i64 0, .int .i64 0, .int .i64 0, .int .i64 0, .int .i64 0, .int .i64 0, .int .i64 0, .int .i64 0, .int .i64 0, .int .i64 0, .int .i64 0, .int .i64 0] 141)) v1.heap.size 0 ra.toList (by rw [Array.length_toList, hsz]; exact hth)
  have hgw : w.heap.size + 2 < v1.heap.size := block_lt HX1.out
  go_wp2_with (refine wpList_store_mid (by rfl) 141 _ _ (by rfl) v1.heap.size 0 ra (by rfl) (by rfl) (by rw [hsz]; exact hth) (by rw [info_A, hsz]) hra ?_)
  have HS3 := Lib.hid ((hg3.block _ (block_lt HS2.out) (by intro e; injection e with e; omega)).trans HS2.out)
  have HX3 := Lib.hid ((hg3.block _ (block_lt HX2.out) (by intro e; injection e with e; omega)).trans HX2.out)
  have Hw3 := Lib.hid (Hw2.out.grown hg3 Hw2.out.size (fun k hk => by injection hk with hk; omega))
  have Hr3 := Lib.hid hr3
  have Hgl := Lib.hid (Nat.lt_of_lt_of_le hgz hg3.size)
  clear hth hg3 hr3 HS2 HX2 Hw2 HD2 HS1 HX1 Hw1 hra hgz
  generalize (v1.alloc (.cells #[.int .i64 0, .int .i64 0, .int .i64 0, .int .i64 0, .int .i64 0, .int .i64 0, .int .i64 0, .int .i64 0, .int .i64 0, .int .i64 0, .int .i64 0, .int .i64 0, .int .i64 0, .int .i64 0, .int .i64 0, .int .i64 0, .int .i64 0, .int .i64 0] 141)).setCells v1.heap.size 0 ra.toList = v3 at *
  generalize v1.heap.size = g at *
  refine (keyT_any (toldF m b) (toldF_ok m Hlt.out) (w.heap.size + 1) g v3 (fun u c hc hb => told1_any m b c (w.heap.size + 1) g A 144 cc u Hm.out Hlt.out hc (block_below HS3.out hb (block_lt HS3.out)) (Nat.lt_of_lt_of_le Hgl.out hb.size) ((hb.cell (p := ⟨g, c, none⟩) Hgl.out).trans (by
    have := Hr3.out c _ (by rw [Array.getElem?_toList]; exact Hat.out c hc)
    rwa [Nat.zero_add] at this)) ((Hr.out.below (Hw3.out.trans (hb.mono Hw3.out.size)) (Nat.le_refl _)).more (Hw3.out.trans (hb.mono Hw3.out.size)).size) rfl hcc)).mono ?_
  rintro e v4 ⟨rfl, hb4⟩
  have hx := block_below HX3.out hb4 (block_lt HX3.out); have hw := Hw3.out.trans (hb4.mono Hw3.out.size)
  have Hbx := Lib.hid hx; have Hbw := Lib.hid hw
  have Hp : Hid (keyD (toldF m b) = toldD m b) := Lib.hid rfl
  rw [Hp.out]
  generalize hp2 : toldD m b = p at *
  have Hp2 := Lib.hid hp2
  obtain ⟨zf, r0, r1, r2, r3, r4, r5, r6, r7⟩ := free8 hx
  clear hp2 hb4 hx hw HX3 Hw3 HS3 Hr3 Hgl Hat hsz
  go_wp2
  clear zf r0 r1 r2 r3 r4 r5 r6 r7
  have h8 := set8 Hbx.out (.int .u8 (p.x0 : Int)) (.int .u8 (p.x1 : Int)) (.int .u8 (p.x2 : Int)) (.int .u8 (p.x3 : Int)) (.int .u8 (p.x4 : Int)) (.int .u8 (p.x5 : Int)) (.int .u8 (p.x6 : Int)) (.int .u8 (p.x7 : Int))
  have hg8 := grown_set8 v4 (w.heap.size + 1 + 1) (.int .u8 (p.x0 : Int)) (.int .u8 (p.x1 : Int)) (.int .u8 (p.x2 : Int)) (.int .u8 (p.x3 : Int)) (.int .u8 (p.x4 : Int)) (.int .u8 (p.x5 : Int)) (.int .u8 (p.x6 : Int)) (.int .u8 (p.x7 : Int))
  generalize ((((((((v4.setCell ⟨w.heap.size + 1 + 1, 0, none⟩ (.int .u8 (p.x0 : Int))).setCell ⟨w.heap.size + 1 + 1, 1, none⟩ (.int .u8 (p.x1 : Int))).setCell ⟨w.heap.size + 1 + 1, 2, none⟩ (.int .u8 (p.x2 : Int))).setCell ⟨w.heap.size + 1 + 1, 3, none⟩ (.int .u8 (p.x3 : Int))).setCell ⟨w.heap.size + 1 + 1, 4, none⟩ (.int .u8 (p.x4 : Int))).setCell ⟨w.heap.size + 1 + 1, 5, none⟩ (.int .u8 (p.x5 : Int))).setCell ⟨w.heap.size + 1 + 1, 6, none⟩ (.int .u8 (p.x6 : Int))).setCell ⟨w.heap.size + 1 + 1, 7, none⟩ (.int .u8 (p.x7 : Int))) = v5 at *
  obtain ⟨zf, r0, r1, r2, r3, r4, r5, r6, r7⟩ := free8 h8
  have Hb2 := Lib.hid (Hbw.out.grown hg8 Hbw.out.size (fun k hk => by injection hk with hk; omega))
  clear h8 hg8
  refine bodyPost_ret (v := .tuple #[.agg #[.int .u8 (p.x0 : Int), .int .u8 (p.x1 : Int), .int .u8 (p.x2 : Int), .int .u8 (p.x3 : Int), .int .u8 (p.x4 : Int), .int .u8 (p.x5 : Int), .int .u8 (p.x6 : Int), .int .u8 (p.x7 : Int)], .bool true]) (by simp [results, Tryz.results84, go_sem, r0, r1, r2, r3, r4, r5, r6, r7]) rfl ⟨by rw [Hp2.out], Hb2.out⟩
end Go.Proofs.YthjpaclcoipocaaGreat
namespace Go.Proofs.YthjpaclcoipocaaGreat
open Go.RowKit Go.Lib



def verifyN (p m : D8) (l : List Nat) : Bool := match splitN l with
  | none => false
  | some (i, o, pl) => sameD (wayD i (toldD m o) pl) p
theorem split_facts {l : List Nat} (hl : ∀ x ∈ l, x < 256) {i : Nat} {o : List Nat} {pl : List D8} (h : splitN l = some (i, o, pl)) : pl.length ≤ 8 ∧ i < 2 ^ pl.length ∧ (∀ x ∈ o, x < 256) ∧ (∀ d ∈ pl, d.ok) := by
  unfold splitN splitS at h
  split at h
  · cases h
  · generalize (numRS ⟨l, 0, 0⟩ 255).1.at_ = a at h
    generalize (numRS ⟨l, 0, 0⟩ 255).2 = v at h
    have hd : ∀ x ∈ l.drop a, x < 256 := fun x hx => hl x (List.mem_of_mem_drop hx)
    generalize l.drop a = r at *
    unfold splitR at h
    split at h
    · cases h
    · split at h
      · cases h
      · split at h
        · cases h
        · split at h
          · cases h
          · rename_i h3 h4
            simp only [Option.some.injEq, Prod.mk.injEq] at h
            obtain ⟨rfl, rfl, rfl⟩ := h
            refine ⟨by simp only [List.length_map, List.length_range]; omega, by simp only [List.length_map, List.length_range]; omega, fun x hx => hd x (List.mem_of_mem_take hx), fun d hd2 => ?_⟩
            obtain ⟨j, _, rfl⟩ := List.mem_map.1 hd2
            exact chunk_ok (fun x hx => hd x (List.mem_of_mem_drop hx)) j
theorem toldD_ok (m : D8) (b : List Nat) : (toldD m b).ok := keyD_ok _
set_option maxRecDepth 100000 in
set_option maxHeartbeats 4000000 in
theorem verify_any (p m : D8) (A : Option Addr) (n c : Nat) (l : List Nat) (w : World) (hm : m.ok) (hr : Rd w w.heap.size 1 A n (bv l)) (hnc : n ≤ c) (hn : n ≤ 400000000) (hlt : ∀ x ∈ l, x < 256) :
    Calls Tryz.prog 82 #[.agg #[.int .u8 (p.x0 : Int), .int .u8 (p.x1 : Int), .int .u8 (p.x2 : Int), .int .u8 (p.x3 : Int), .int .u8 (p.x4 : Int), .int .u8 (p.x5 : Int), .int .u8 (p.x6 : Int), .int .u8 (p.x7 : Int)], .agg #[.int .u8 (m.x0 : Int), .int .u8 (m.x1 : Int), .int .u8 (m.x2 : Int), .int .u8 (m.x3 : Int), .int .u8 (m.x4 : Int), .int .u8 (m.x5 : Int), .int .u8 (m.x6 : Int), .int .u8 (m.x7 : Int)], .slice A n c] w fun e w' => e = .returned (.bool (verifyN p m l)) ∧ Below w.heap.size w w' := by
  obtain ⟨hp0, hm0, hw0, hz0⟩ := alloc2 w (.cells #[.int .u8 (p.x0 : Int), .int .u8 (p.x1 : Int), .int .u8 (p.x2 : Int), .int .u8 (p.x3 : Int), .int .u8 (p.x4 : Int), .int .u8 (p.x5 : Int), .int .u8 (p.x6 : Int), .int .u8 (p.x7 : Int)] 30) (.cells #[.int .u8 (m.x0 : Int), .int .u8 (m.x1 : Int), .int .u8 (m.x2 : Int), .int .u8 (m.x3 : Int), .int .u8 (m.x4 : Int), .int .u8 (m.x5 : Int), .int .u8 (m.x6 : Int), .int .u8 (m.x7 : Int)] 30)
  have HP0 := Lib.hid hp0; have HM0 := Lib.hid hm0; have Hw0 := Lib.hid hw0
  have Hsp := Lib.hid (fun (u : World) (hb : Below w.heap.size w u) => split_any A n c l u ((hr.below hb (Nat.le_refl _)).more hb.size) hnc hn hlt)
  have Hm := Lib.hid hm; have Hlt := Lib.hid hlt
  clear hr hp0 hm0 hw0 hz0 hm hlt
  go_enter Tryz.func82, Tryz.ntmps82
  go_upto_region 1 with fail
  generalize (w.alloc (.cells #[.int .u8 (p.x0 : Int), .int .u8 (p.x1 : Int), .int .u8 (p.x2 : Int), .int .u8 (p.x3 : Int), .int .u8 (p.x4 : Int), .int .u8 (p.x5 : Int), .int .u8 (p.x6 : Int), .int .u8 (p.x7 : Int)] 30)).alloc (.cells #[.int .u8 (m.x0 : Int), .int .u8 (m.x1 : Int), .int .u8 (m.x2 : Int), .int .u8 (m.x3 : Int), .int .u8 (m.x4 : Int), .int .u8 (m.x5 : Int), .int .u8 (m.x6 : Int), .int .u8 (m.x7 : Int)] 30) = v0 at *
  go_wp2_with fail
  refine (Hsp.out v0 Hw0.out).mono ?_
  rintro e v1 ⟨hb1, hs1⟩
  have HP1 := Lib.hid (block_below HP0.out hb1 (block_lt HP0.out)); have HM1 := Lib.hid (block_below HM0.out hb1 (block_lt HM0.out)); have Hw1 := Lib.hid (Hw0.out.trans (hb1.mono Hw0.out.size))
  clear hb1 HP0 HM0 Hw0 Hsp
  cases hsp : splitN l with
  | none =>
    rw [hsp] at hs1
    have hs1 : e = .returned (.tuple #[partsZ, .bool false]) := hs1
    subst hs1
    have Hv : Hid (verifyN p m l = false) := Lib.hid (by unfold verifyN; rw [hsp])
    clear hsp
    unfold partsZ
    go_wp2
    go_ret
    exact ⟨ret_bool Hv.out.symm, Hw1.out.alloc Hw1.out.size _⟩
  | some x =>
    obtain ⟨i, o, pl⟩ := x
    rw [hsp] at hs1
    obtain ⟨A1, c1, A2, he, hc1, hr1, hr2⟩ := hs1
    subst he
    obtain ⟨hq8, hi2, ho, hok⟩ := split_facts Hlt.out hsp
    have Hv : Hid (verifyN p m l = sameD (wayD i (toldD m o) pl) p) := Lib.hid (by unfold verifyN; rw [hsp])
    have HX2 : Hid ((v1.alloc (.cells #[.int .i64 (i : Int), .slice A1 144 c1, .slice A2 pl.length pl.length] 135)).heap[v1.heap.size]? = some (.cells #[.int .i64 (i : Int), .slice A1 144 c1, .slice A2 pl.length pl.length] 135 (0, 0))) := heap_alloc_new v1 _
    have hb2 := h_one v1 (.cells #[.int .i64 (i : Int), .slice A1 144 c1, .slice A2 pl.length pl.length] 135)
    have HP2 := Lib.hid (block_below HP1.out hb2 (block_lt HP1.out)); have HM2 := Lib.hid (block_below HM1.out hb2 (block_lt HM1.out)); have Hw2 := Lib.hid (Hw1.out.trans (hb2.mono Hw1.out.size))
    have Hr1 := Lib.hid ((hr1.below hb2 (Nat.le_refl _)).more hb2.size); have Hr2 := Lib.hid ((hr2.below hb2 (Nat.le_refl _)).more hb2.size)
    have Ho := Lib.hid ho; have Hok := Lib.hid hok; have Hi2 := Lib.hid hi2
    clear hsp hr1 hr2 ho hok hi2 hb2 HP1 HM1 Hw1
    generalize pl.length = q at *
    go_upto_region 2 with fail
    generalize v1.alloc (.cells #[.int .i64 (i : Int), .slice A1 144 c1, .slice A2 q q] 135) = v2 at *
    generalize v1.heap.size = bx at *
    obtain ⟨zf, r0, r1, r2, r3, r4, r5, r6, r7⟩ := free8 HM2.out
    obtain ⟨yf, x0, x1, x2⟩ := free3 HX2.out
    have hlm := block_lt HM2.out; have hlx := block_lt HX2.out
    clear zf yf
    go_wp2_with fail
    refine (told_sig_any m o A1 144 c1 v2 Hm.out Ho.out Hr1.out rfl hc1).mono ?_
    rintro e v3 ⟨rfl, hb3⟩
    obtain ⟨kd, hkd⟩ : ∃ kd, kd = toldD m o := ⟨_, rfl⟩
    rw [← hkd] at Hv ⊢
    have Hkd : Hid kd.ok := by rw [hkd]; exact Lib.hid (toldD_ok _ _)
    have HK4 : Hid ((v3.alloc (.cells #[.int .u8 (kd.x0 : Int), .int .u8 (kd.x1 : Int), .int .u8 (kd.x2 : Int), .int .u8 (kd.x3 : Int), .int .u8 (kd.x4 : Int), .int .u8 (kd.x5 : Int), .int .u8 (kd.x6 : Int), .int .u8 (kd.x7 : Int)] 30)).heap[v3.heap.size]? = some (.cells #[.int .u8 (kd.x0 : Int), .int .u8 (kd.x1 : Int), .int .u8 (kd.x2 : Int), .int .u8 (kd.x3 : Int), .int .u8 (kd.x4 : Int), .int .u8 (kd.x5 : Int), .int .u8 (kd.x6 : Int), .int .u8 (kd.x7 : Int)] 30 (0, 0))) := heap_alloc_new v3 _
    have hb4 := hb3.trans ((h_one v3 (.cells #[.int .u8 (kd.x0 : Int), .int .u8 (kd.x1 : Int), .int .u8 (kd.x2 : Int), .int .u8 (kd.x3 : Int), .int .u8 (kd.x4 : Int), .int .u8 (kd.x5 : Int), .int .u8 (kd.x6 : Int), .int .u8 (kd.x7 : Int)] 30)).mono hb3.size)
    have HP4 := Lib.hid (block_below HP2.out hb4 (block_lt HP2.out)); have HX4 := Lib.hid (block_below HX2.out hb4 hlx); have Hw4 := Lib.hid (Hw2.out.trans (hb4.mono Hw2.out.size))
    have Hr4 := Lib.hid ((Hr2.out.below hb4 (Nat.le_refl _)).more hb4.size)
    clear r0 r1 r2 r3 r4 r5 r6 r7 x0 x1 x2 hlm hlx hb3 hb4 hkd HM2 HP2 HX2 Hw2 Hr2 Hr1
    go_upto_region 5 with fail
    generalize v3.alloc (.cells #[.int .u8 (kd.x0 : Int), .int .u8 (kd.x1 : Int), .int .u8 (kd.x2 : Int), .int .u8 (kd.x3 : Int), .int .u8 (kd.x4 : Int), .int .u8 (kd.x5 : Int), .int .u8 (kd.x6 : Int), .int .u8 (kd.x7 : Int)] 30) = v4 at *
    generalize v3.heap.size = bk at *
    obtain ⟨zf, r0, r1, r2, r3, r4, r5, r6, r7⟩ := free8 HK4.out
    obtain ⟨zf, y0, y1, y2, y3, y4, y5, y6, y7⟩ := free8 HP4.out
    obtain ⟨yf, x0, x1, x2⟩ := free3 HX4.out
    have hlk := block_lt HK4.out; have hlp := block_lt HP4.out; have hlx := block_lt HX4.out
    clear zf yf
    go_wp2_with fail
    refine (check_any p i kd A2 q q pl v4 Hkd.out Hr4.out Hok.out hq8 Hi2.out).mono ?_
    rintro e v5 ⟨rfl, hb5⟩
    rw [← Hv.out]
    have Hw5 := Lib.hid (Hw4.out.trans (hb5.mono Hw4.out.size))
    generalize hvb : verifyN p m l = vb at *
    have Hvb := Lib.hid hvb
    clear hb5 hvb
    go_wp2
    go_ret
    exact ⟨ret_bool Hvb.out.symm, Hw5.out⟩
set_option maxRecDepth 100000 in
set_option maxHeartbeats 2000000 in
theorem rpublic_any {w : World} {B : Nat} {F : Nat → Prop} {T0 T1 br : Nat} {r : RingM} (a : RingAt w B F T0 T1 br r) :
    Calls Tryz.prog 117 #[.pointer (some ⟨br, 0, none⟩)] w fun e w' => e = .returned (.agg #[.int .u8 ((rootD (keysD r.secret r.h) r.h).x0 : Int), .int .u8 ((rootD (keysD r.secret r.h) r.h).x1 : Int), .int .u8 ((rootD (keysD r.secret r.h) r.h).x2 : Int), .int .u8 ((rootD (keysD r.secret r.h) r.h).x3 : Int), .int .u8 ((rootD (keysD r.secret r.h) r.h).x4 : Int), .int .u8 ((rootD (keysD r.secret r.h) r.h).x5 : Int), .int .u8 ((rootD (keysD r.secret r.h) r.h).x6 : Int), .int .u8 ((rootD (keysD r.secret r.h) r.h).x7 : Int)]) ∧ Below w.heap.size w w' := by
  have HX0 : Hid ((w.alloc (.cells #[.int .u8 0, .int .u8 0, .int .u8 0, .int .u8 0, .int .u8 0, .int .u8 0, .int .u8 0, .int .u8 0] 30)).heap[w.heap.size]? = some (.cells #[.int .u8 0, .int .u8 0, .int .u8 0, .int .u8 0, .int .u8 0, .int .u8 0, .int .u8 0, .int .u8 0] 30 (0, 0))) := heap_alloc_new w _
  have Hw0 := Lib.hid (h_one w (.cells #[.int .u8 0, .int .u8 0, .int .u8 0, .int .u8 0, .int .u8 0, .int .u8 0, .int .u8 0, .int .u8 0] 30))
  obtain ⟨mb, bt, hl, ht⟩ := a.led
  obtain ⟨A, c, hb, ho, hg⟩ := hl.cells
  have Ht := Lib.hid (ht.below Hw0.out)
  have HB := Lib.hid (block_below hb Hw0.out (block_lt hb))
  clear hl ho hg hb ht a
  go_enter Tryz.func117, Tryz.ntmps117
  go_upto_region 1 with fail
  generalize w.alloc (.cells #[.int .u8 0, .int .u8 0, .int .u8 0, .int .u8 0, .int .u8 0, .int .u8 0, .int .u8 0, .int .u8 0] 30) = v0 at *
  obtain ⟨yf, y0, y1, y2, y3, y4, y5, y6, y7, y8, y9, y10, y11⟩ := freeR HB.out
  have hlb := block_lt HB.out
  clear yf y0 y1 y2 y3 y4 y5 y6 y7 y8 y10 y11
  go_wp2_with fail
  refine (root_any T0 T1 bt r.h (keysD r.secret r.h) v0 Ht.out).mono ?_
  rintro e v1 ⟨rfl, hb1⟩
  have hx := block_below HX0.out hb1 (block_lt HX0.out); have hw := Hw0.out.trans (hb1.mono Hw0.out.size)
  have Hbx := Lib.hid hx; have Hbw := Lib.hid hw
  obtain ⟨zf, r0, r1, r2, r3, r4, r5, r6, r7⟩ := free8 hx
  generalize hp2 : rootD (keysD r.secret r.h) r.h = p at *
  have Hp2 := Lib.hid hp2
  clear hp2 hb1 hx hw HX0 Hw0 HB Ht
  go_wp2
  clear zf r0 r1 r2 r3 r4 r5 r6 r7
  have h8 := set8 Hbx.out (.int .u8 (p.x0 : Int)) (.int .u8 (p.x1 : Int)) (.int .u8 (p.x2 : Int)) (.int .u8 (p.x3 : Int)) (.int .u8 (p.x4 : Int)) (.int .u8 (p.x5 : Int)) (.int .u8 (p.x6 : Int)) (.int .u8 (p.x7 : Int))
  have hg8 := grown_set8 v1 (w.heap.size) (.int .u8 (p.x0 : Int)) (.int .u8 (p.x1 : Int)) (.int .u8 (p.x2 : Int)) (.int .u8 (p.x3 : Int)) (.int .u8 (p.x4 : Int)) (.int .u8 (p.x5 : Int)) (.int .u8 (p.x6 : Int)) (.int .u8 (p.x7 : Int))
  generalize ((((((((v1.setCell ⟨w.heap.size, 0, none⟩ (.int .u8 (p.x0 : Int))).setCell ⟨w.heap.size, 1, none⟩ (.int .u8 (p.x1 : Int))).setCell ⟨w.heap.size, 2, none⟩ (.int .u8 (p.x2 : Int))).setCell ⟨w.heap.size, 3, none⟩ (.int .u8 (p.x3 : Int))).setCell ⟨w.heap.size, 4, none⟩ (.int .u8 (p.x4 : Int))).setCell ⟨w.heap.size, 5, none⟩ (.int .u8 (p.x5 : Int))).setCell ⟨w.heap.size, 6, none⟩ (.int .u8 (p.x6 : Int))).setCell ⟨w.heap.size, 7, none⟩ (.int .u8 (p.x7 : Int))) = v2 at *
  obtain ⟨zf, r0, r1, r2, r3, r4, r5, r6, r7⟩ := free8 h8
  have Hb2 := Lib.hid (Hbw.out.grown hg8 Hbw.out.size (fun k hk => by injection hk with hk; omega))
  clear h8 hg8
  refine bodyPost_ret (v := .agg #[.int .u8 (p.x0 : Int), .int .u8 (p.x1 : Int), .int .u8 (p.x2 : Int), .int .u8 (p.x3 : Int), .int .u8 (p.x4 : Int), .int .u8 (p.x5 : Int), .int .u8 (p.x6 : Int), .int .u8 (p.x7 : Int)]) (by simp [results, Tryz.results117, go_sem, r0, r1, r2, r3, r4, r5, r6, r7]) rfl ⟨by rw [Hp2.out], Hb2.out⟩
end Go.Proofs.YthjpaclcoipocaaGreat
