/- The reference's One, Two, Word. Conditions: bounds. The reference's Chain, Many. Conditions: bounds. The reference's heights, names, leaves, and where chains begin. Conditions: bounds. The reference's nodes, roots and paths of a tree. Conditions: bounds. -/
import Derived.Test.YtmpklplojfjfbaaGreatDoorHsH
import Derived.Test.YtmpklplojfjfbaaGreatDoorKfB
import Derived.Test.YtmpklplojfjfbaaGreatDoorJoinI
import Derived.Test.YtmpklplojfjfbaaGreatDoorJoinR
import Derived.Test.YtmpklplojfjfbaaGreatDoorJoinN
namespace Go.Proofs.YtmpklplojfjfbaaGreatDoor
open Go.RowKit Go.Lib





set_option maxRecDepth 100000 in
set_option maxHeartbeats 2000000 in
theorem rone_any (d : D8) (w : World) (hd : d.ok) :
    Calls Tryz.prog 98 #[.agg #[.int .u8 (d.x0 : Int), .int .u8 (d.x1 : Int), .int .u8 (d.x2 : Int), .int .u8 (d.x3 : Int), .int .u8 (d.x4 : Int), .int .u8 (d.x5 : Int), .int .u8 (d.x6 : Int), .int .u8 (d.x7 : Int)]] w fun e w' => e = .returned (.agg #[.int .u8 ((hashOne d).x0 : Int), .int .u8 ((hashOne d).x1 : Int), .int .u8 ((hashOne d).x2 : Int), .int .u8 ((hashOne d).x3 : Int), .int .u8 ((hashOne d).x4 : Int), .int .u8 ((hashOne d).x5 : Int), .int .u8 ((hashOne d).x6 : Int), .int .u8 ((hashOne d).x7 : Int)]) ∧ Below w.heap.size w w' := by
  obtain ⟨ha0, hx0, hw0, hz0⟩ := alloc2 w (.cells #[.int .u8 (d.x0 : Int), .int .u8 (d.x1 : Int), .int .u8 (d.x2 : Int), .int .u8 (d.x3 : Int), .int .u8 (d.x4 : Int), .int .u8 (d.x5 : Int), .int .u8 (d.x6 : Int), .int .u8 (d.x7 : Int)] 22) (.cells #[.int .u8 0, .int .u8 0, .int .u8 0, .int .u8 0, .int .u8 0, .int .u8 0, .int .u8 0, .int .u8 0] 22)
  obtain ⟨s0, hs0⟩ : ∃ s0, s0 = Hs.begin 2 := ⟨_, rfl⟩
  obtain ⟨s1, hs1⟩ : ∃ s1, s1 = s0.take (d.num : Int) := ⟨_, rfl⟩
  obtain ⟨dd, hdd⟩ : ∃ dd, dd = s1.out := ⟨_, rfl⟩
  have HBG := Lib.hid (fun u => beginr_any 2 u); have HNM := Lib.hid (fun u => rnum_any d u hd); have HIN := Lib.hid (fun u => in_any s0 (d.num : Int) u); have HOU := Lib.hid (fun u => outr_any s1 u)
  have Hres : Hid (hashOne d = dd) := Lib.hid (by rw [hdd, hs1, hs0]; rfl)
  rw [← hs0] at HBG; rw [← hs1] at HIN; rw [← hdd] at HOU
  have HX0 := Lib.hid hx0; have H0 := Lib.hid (And.intro hw0 ha0)
  clear hd ha0 hx0 hw0 hz0 hs0 hs1 hdd
  go_enter Tryz.func98, Tryz.ntmps98
  go_upto_region 1 with fail
  generalize (w.alloc (.cells #[.int .u8 (d.x0 : Int), .int .u8 (d.x1 : Int), .int .u8 (d.x2 : Int), .int .u8 (d.x3 : Int), .int .u8 (d.x4 : Int), .int .u8 (d.x5 : Int), .int .u8 (d.x6 : Int), .int .u8 (d.x7 : Int)] 22)).alloc (.cells #[.int .u8 0, .int .u8 0, .int .u8 0, .int .u8 0, .int .u8 0, .int .u8 0, .int .u8 0, .int .u8 0] 22) = v0 at *
  have hL : ∀ w', (Below w.heap.size w w' ∧ w'.heap[w.heap.size]? = some (.cells #[.int .u8 (d.x0 : Int), .int .u8 (d.x1 : Int), .int .u8 (d.x2 : Int), .int .u8 (d.x3 : Int), .int .u8 (d.x4 : Int), .int .u8 (d.x5 : Int), .int .u8 (d.x6 : Int), .int .u8 (d.x7 : Int)] 22 (0, 0))) → (Instr.loadAt 22 (.pointer (some ⟨w.heap.size, 0, none⟩))).run Tryz.prog w' = .ok (.agg #[.int .u8 (d.x0 : Int), .int .u8 (d.x1 : Int), .int .u8 (d.x2 : Int), .int .u8 (d.x3 : Int), .int .u8 (d.x4 : Int), .int .u8 (d.x5 : Int), .int .u8 (d.x6 : Int), .int .u8 (d.x7 : Int)]) w' := fun w' h => load_d8 h.2
  have hS0 : Below w.heap.size w v0.drew ∧ v0.drew.heap[w.heap.size]? = some (.cells #[.int .u8 (d.x0 : Int), .int .u8 (d.x1 : Int), .int .u8 (d.x2 : Int), .int .u8 (d.x3 : Int), .int .u8 (d.x4 : Int), .int .u8 (d.x5 : Int), .int .u8 (d.x6 : Int), .int .u8 (d.x7 : Int)] 22 (0, 0)) := ⟨H0.out.1.drew, H0.out.2⟩
  have Hd0 := Lib.hid hS0
  have HXd0 : Hid (v0.drew.heap[w.heap.size + 1]? = some (.cells #[.int .u8 0, .int .u8 0, .int .u8 0, .int .u8 0, .int .u8 0, .int .u8 0, .int .u8 0, .int .u8 0] 22 (0, 0))) := HX0
  refine wp_region_held_drew (S := fun w' => Below w.heap.size w w' ∧ w'.heap[w.heap.size]? = some (.cells #[.int .u8 (d.x0 : Int), .int .u8 (d.x1 : Int), .int .u8 (d.x2 : Int), .int .u8 (d.x3 : Int), .int .u8 (d.x4 : Int), .int .u8 (d.x5 : Int), .int .u8 (d.x6 : Int), .int .u8 (d.x7 : Int)] 22 (0, 0))) (by kernel_rfl) hS0 (fun hHeld => ?_)
  rw [show Array.replicate _ false = (#[false, false, false, false, false, false] : Array Bool) from rfl]
  refine takeH 1 (some 4) (v := .agg #[.int .u8 (d.x0 : Int), .int .u8 (d.x1 : Int), .int .u8 (d.x2 : Int), .int .u8 (d.x3 : Int), .int .u8 (d.x4 : Int), .int .u8 (d.x5 : Int), .int .u8 (d.x6 : Int), .int .u8 (d.x7 : Int)]) rfl (by kernel_rfl) (by kernel_rfl) (by kernel_rfl) (by kernel_rfl) (fun _ _ _ h => h) (Or.inl ⟨by kernel_rfl, ?hy⟩) (by assumption) ?_
  case hy =>
    intro w' hSw
    simp [execOp, Act.eval, hL w' hSw, Result.andThen]
  simp only [Act.put, List.setIfInBounds_toArray, List.set_cons_zero, List.set_cons_succ]
  clear hL hS0
  refine wpAnyH_ready (rs := [0]) (by kernel_rfl) (by simp) ?_
  refine AllReadyH.cons rfl (fun K hK => ?_) AllReadyH.nil
  rw [if_pos (by kernel_rfl)]
  go_simp
  refine (HBG.out _).mono ?_
  rintro e v1 ⟨rfl, hb⟩
  have H1 := Lib.hid (And.intro (Hd0.out.1.trans (hb.mono Hd0.out.1.size)) (block_below Hd0.out.2 hb (block_lt Hd0.out.2)))
  have HX1 := Lib.hid (block_below HXd0.out hb (block_lt HXd0.out))
  clear hb
  refine hK.out _ _ H1.out (fun _ => ?_)
  clear hK K
  simp only [List.setIfInBounds_toArray, List.set_cons_zero]
  refine wpAnyH_ready (rs := [2]) (by kernel_rfl) (by simp) ?_
  refine AllReadyH.cons rfl (fun K hK => ?_) AllReadyH.nil
  rw [if_pos (by kernel_rfl)]
  go_simp
  refine (HNM.out _).mono ?_
  rintro e v2 ⟨rfl, hb⟩
  have H2 := Lib.hid (And.intro (H1.out.1.trans (hb.mono H1.out.1.size)) (block_below H1.out.2 hb (block_lt H1.out.2)))
  have HX2 := Lib.hid (block_below HX1.out hb (block_lt HX1.out))
  clear hb
  refine hK.out _ _ H2.out (fun _ => ?_)
  clear hK K
  simp only [List.setIfInBounds_toArray, List.set_cons_zero, List.set_cons_succ]
  refine wpAnyH_ready (rs := [3]) (by kernel_rfl) (by simp) ?_
  refine AllReadyH.cons rfl (fun K hK => ?_) AllReadyH.nil
  rw [if_pos (by kernel_rfl)]
  go_simp
  refine (HIN.out _).mono ?_
  rintro e v3 ⟨rfl, hb⟩
  have H3 := Lib.hid (And.intro (H2.out.1.trans (hb.mono H2.out.1.size)) (block_below H2.out.2 hb (block_lt H2.out.2)))
  have HX3 := Lib.hid (block_below HX2.out hb (block_lt HX2.out))
  clear hb
  refine hK.out _ _ H3.out (fun _ => ?_)
  clear hK K
  simp only [List.setIfInBounds_toArray, List.set_cons_zero, List.set_cons_succ]
  refine wpAnyH_ready (rs := [4]) (by kernel_rfl) (by simp) ?_
  refine AllReadyH.cons rfl (fun K hK => ?_) AllReadyH.nil
  rw [if_pos (by kernel_rfl)]
  go_simp
  refine (HOU.out _).mono ?_
  rintro e v4 ⟨rfl, hb⟩
  have H4 := Lib.hid (And.intro (H3.out.1.trans (hb.mono H3.out.1.size)) (block_below H3.out.2 hb (block_lt H3.out.2)))
  have HX4 := Lib.hid (block_below HX3.out hb (block_lt HX3.out))
  clear hb
  refine hK.out _ _ H4.out (fun _ => ?_)
  clear hK K
  simp only [List.setIfInBounds_toArray, List.set_cons_zero, List.set_cons_succ]
  obtain ⟨zf, r0, r1, r2, r3, r4, r5, r6, r7⟩ := free8 HX4.out
  have hlx := block_lt HX4.out
  have h8 := set8 HX4.out (.int .u8 (dd.x0 : Int)) (.int .u8 (dd.x1 : Int)) (.int .u8 (dd.x2 : Int)) (.int .u8 (dd.x3 : Int)) (.int .u8 (dd.x4 : Int)) (.int .u8 (dd.x5 : Int)) (.int .u8 (dd.x6 : Int)) (.int .u8 (dd.x7 : Int))
  have hg8 := grown_set8 v4 (w.heap.size + 1) (.int .u8 (dd.x0 : Int)) (.int .u8 (dd.x1 : Int)) (.int .u8 (dd.x2 : Int)) (.int .u8 (dd.x3 : Int)) (.int .u8 (dd.x4 : Int)) (.int .u8 (dd.x5 : Int)) (.int .u8 (dd.x6 : Int)) (.int .u8 (dd.x7 : Int))
  have hS5 : Below w.heap.size w ((((((((v4.setCell ⟨w.heap.size + 1, 0, none⟩ (.int .u8 (dd.x0 : Int))).setCell ⟨w.heap.size + 1, 1, none⟩ (.int .u8 (dd.x1 : Int))).setCell ⟨w.heap.size + 1, 2, none⟩ (.int .u8 (dd.x2 : Int))).setCell ⟨w.heap.size + 1, 3, none⟩ (.int .u8 (dd.x3 : Int))).setCell ⟨w.heap.size + 1, 4, none⟩ (.int .u8 (dd.x4 : Int))).setCell ⟨w.heap.size + 1, 5, none⟩ (.int .u8 (dd.x5 : Int))).setCell ⟨w.heap.size + 1, 6, none⟩ (.int .u8 (dd.x6 : Int))).setCell ⟨w.heap.size + 1, 7, none⟩ (.int .u8 (dd.x7 : Int))) ∧ (((((((((v4.setCell ⟨w.heap.size + 1, 0, none⟩ (.int .u8 (dd.x0 : Int))).setCell ⟨w.heap.size + 1, 1, none⟩ (.int .u8 (dd.x1 : Int))).setCell ⟨w.heap.size + 1, 2, none⟩ (.int .u8 (dd.x2 : Int))).setCell ⟨w.heap.size + 1, 3, none⟩ (.int .u8 (dd.x3 : Int))).setCell ⟨w.heap.size + 1, 4, none⟩ (.int .u8 (dd.x4 : Int))).setCell ⟨w.heap.size + 1, 5, none⟩ (.int .u8 (dd.x5 : Int))).setCell ⟨w.heap.size + 1, 6, none⟩ (.int .u8 (dd.x6 : Int))).setCell ⟨w.heap.size + 1, 7, none⟩ (.int .u8 (dd.x7 : Int)))).heap[w.heap.size]? = some (.cells #[.int .u8 (d.x0 : Int), .int .u8 (d.x1 : Int), .int .u8 (d.x2 : Int), .int .u8 (d.x3 : Int), .int .u8 (d.x4 : Int), .int .u8 (d.x5 : Int), .int .u8 (d.x6 : Int), .int .u8 (d.x7 : Int)] 22 (0, 0)) := ⟨H4.out.1.grown hg8 H4.out.1.size (fun k hk => by injection hk with hk; omega), (hg8.block _ (block_lt H4.out.2) (by intro e; injection e with e; omega)).trans H4.out.2⟩
  refine wpAnyH_ready (rs := [5]) (by kernel_rfl) (by simp) ?_
  refine AllReadyH.cons rfl (fun K hK => ?_) AllReadyH.nil
  rw [if_pos (by kernel_rfl)]
  go_simp
  refine hK.out _ _ hS5 (fun _ => ?_)
  clear hK K
  simp only [List.setIfInBounds_toArray, List.set_cons_zero, List.set_cons_succ]
  refine wpAnyH_done (by kernel_rfl) ?_ _
  have Hb5 := Lib.hid hS5.1
  clear hS5 hg8 zf r0 r1 r2 r3 r4 r5 r6 r7
  generalize ((((((((v4.setCell ⟨w.heap.size + 1, 0, none⟩ (.int .u8 (dd.x0 : Int))).setCell ⟨w.heap.size + 1, 1, none⟩ (.int .u8 (dd.x1 : Int))).setCell ⟨w.heap.size + 1, 2, none⟩ (.int .u8 (dd.x2 : Int))).setCell ⟨w.heap.size + 1, 3, none⟩ (.int .u8 (dd.x3 : Int))).setCell ⟨w.heap.size + 1, 4, none⟩ (.int .u8 (dd.x4 : Int))).setCell ⟨w.heap.size + 1, 5, none⟩ (.int .u8 (dd.x5 : Int))).setCell ⟨w.heap.size + 1, 6, none⟩ (.int .u8 (dd.x6 : Int))).setCell ⟨w.heap.size + 1, 7, none⟩ (.int .u8 (dd.x7 : Int))) = v5 at *
  obtain ⟨zf, r0, r1, r2, r3, r4, r5, r6, r7⟩ := free8 h8
  go_wp2
  refine bodyPost_ret (v := .agg #[.int .u8 (dd.x0 : Int), .int .u8 (dd.x1 : Int), .int .u8 (dd.x2 : Int), .int .u8 (dd.x3 : Int), .int .u8 (dd.x4 : Int), .int .u8 (dd.x5 : Int), .int .u8 (dd.x6 : Int), .int .u8 (dd.x7 : Int)]) (by simp [results, Tryz.results98, go_sem, r0, r1, r2, r3, r4, r5, r6, r7]) rfl ⟨by rw [Hres.out], Hb5.out⟩
set_option maxRecDepth 100000 in
set_option maxHeartbeats 2000000 in
theorem rtwo_any (a b : D8) (w : World) (ha : a.ok) (hb : b.ok) :
    Calls Tryz.prog 60 #[.agg #[.int .u8 (a.x0 : Int), .int .u8 (a.x1 : Int), .int .u8 (a.x2 : Int), .int .u8 (a.x3 : Int), .int .u8 (a.x4 : Int), .int .u8 (a.x5 : Int), .int .u8 (a.x6 : Int), .int .u8 (a.x7 : Int)], .agg #[.int .u8 (b.x0 : Int), .int .u8 (b.x1 : Int), .int .u8 (b.x2 : Int), .int .u8 (b.x3 : Int), .int .u8 (b.x4 : Int), .int .u8 (b.x5 : Int), .int .u8 (b.x6 : Int), .int .u8 (b.x7 : Int)]] w fun e w' => e = .returned (.agg #[.int .u8 ((hashTwo a b).x0 : Int), .int .u8 ((hashTwo a b).x1 : Int), .int .u8 ((hashTwo a b).x2 : Int), .int .u8 ((hashTwo a b).x3 : Int), .int .u8 ((hashTwo a b).x4 : Int), .int .u8 ((hashTwo a b).x5 : Int), .int .u8 ((hashTwo a b).x6 : Int), .int .u8 ((hashTwo a b).x7 : Int)]) ∧ Below w.heap.size w w' := by
  obtain ⟨ha0, hb0, hx0, hw0, hz0⟩ := alloc3 w (.cells #[.int .u8 (a.x0 : Int), .int .u8 (a.x1 : Int), .int .u8 (a.x2 : Int), .int .u8 (a.x3 : Int), .int .u8 (a.x4 : Int), .int .u8 (a.x5 : Int), .int .u8 (a.x6 : Int), .int .u8 (a.x7 : Int)] 22) (.cells #[.int .u8 (b.x0 : Int), .int .u8 (b.x1 : Int), .int .u8 (b.x2 : Int), .int .u8 (b.x3 : Int), .int .u8 (b.x4 : Int), .int .u8 (b.x5 : Int), .int .u8 (b.x6 : Int), .int .u8 (b.x7 : Int)] 22) (.cells #[.int .u8 0, .int .u8 0, .int .u8 0, .int .u8 0, .int .u8 0, .int .u8 0, .int .u8 0, .int .u8 0] 22)
  obtain ⟨s0, hs0⟩ : ∃ s0, s0 = Hs.begin 3 := ⟨_, rfl⟩
  obtain ⟨s1, hs1⟩ : ∃ s1, s1 = s0.take (a.num : Int) := ⟨_, rfl⟩
  obtain ⟨s2, hs2⟩ : ∃ s2, s2 = s1.take (b.num : Int) := ⟨_, rfl⟩
  obtain ⟨dd, hdd⟩ : ∃ dd, dd = s2.out := ⟨_, rfl⟩
  have HBG := Lib.hid (fun u => beginr_any 3 u); have HNA := Lib.hid (fun u => rnum_any a u ha); have HNB := Lib.hid (fun u => rnum_any b u hb); have HIA := Lib.hid (fun u => in_any s0 (a.num : Int) u); have HIB := Lib.hid (fun u => in_any s1 (b.num : Int) u); have HOU := Lib.hid (fun u => outr_any s2 u)
  have Hres : Hid (hashTwo a b = dd) := Lib.hid (by rw [hdd, hs2, hs1, hs0]; rfl)
  rw [← hs0] at HBG; rw [← hs1] at HIA; rw [← hs2] at HIB; rw [← hdd] at HOU
  have HX0 := Lib.hid hx0; have H0 := Lib.hid (And.intro hw0 (And.intro ha0 hb0))
  clear ha hb ha0 hb0 hx0 hw0 hz0 hs0 hs1 hs2 hdd
  go_enter Tryz.func60, Tryz.ntmps60
  go_upto_region 1 with fail
  generalize ((w.alloc (.cells #[.int .u8 (a.x0 : Int), .int .u8 (a.x1 : Int), .int .u8 (a.x2 : Int), .int .u8 (a.x3 : Int), .int .u8 (a.x4 : Int), .int .u8 (a.x5 : Int), .int .u8 (a.x6 : Int), .int .u8 (a.x7 : Int)] 22)).alloc (.cells #[.int .u8 (b.x0 : Int), .int .u8 (b.x1 : Int), .int .u8 (b.x2 : Int), .int .u8 (b.x3 : Int), .int .u8 (b.x4 : Int), .int .u8 (b.x5 : Int), .int .u8 (b.x6 : Int), .int .u8 (b.x7 : Int)] 22)).alloc (.cells #[.int .u8 0, .int .u8 0, .int .u8 0, .int .u8 0, .int .u8 0, .int .u8 0, .int .u8 0, .int .u8 0] 22) = v0 at *
  have hLa : ∀ w', (Below w.heap.size w w' ∧ w'.heap[w.heap.size]? = some (.cells #[.int .u8 (a.x0 : Int), .int .u8 (a.x1 : Int), .int .u8 (a.x2 : Int), .int .u8 (a.x3 : Int), .int .u8 (a.x4 : Int), .int .u8 (a.x5 : Int), .int .u8 (a.x6 : Int), .int .u8 (a.x7 : Int)] 22 (0, 0)) ∧ w'.heap[w.heap.size + 1]? = some (.cells #[.int .u8 (b.x0 : Int), .int .u8 (b.x1 : Int), .int .u8 (b.x2 : Int), .int .u8 (b.x3 : Int), .int .u8 (b.x4 : Int), .int .u8 (b.x5 : Int), .int .u8 (b.x6 : Int), .int .u8 (b.x7 : Int)] 22 (0, 0))) → (Instr.loadAt 22 (.pointer (some ⟨w.heap.size, 0, none⟩))).run Tryz.prog w' = .ok (.agg #[.int .u8 (a.x0 : Int), .int .u8 (a.x1 : Int), .int .u8 (a.x2 : Int), .int .u8 (a.x3 : Int), .int .u8 (a.x4 : Int), .int .u8 (a.x5 : Int), .int .u8 (a.x6 : Int), .int .u8 (a.x7 : Int)]) w' := fun w' h => load_d8 h.2.1
  have hLb : ∀ w', (Below w.heap.size w w' ∧ w'.heap[w.heap.size]? = some (.cells #[.int .u8 (a.x0 : Int), .int .u8 (a.x1 : Int), .int .u8 (a.x2 : Int), .int .u8 (a.x3 : Int), .int .u8 (a.x4 : Int), .int .u8 (a.x5 : Int), .int .u8 (a.x6 : Int), .int .u8 (a.x7 : Int)] 22 (0, 0)) ∧ w'.heap[w.heap.size + 1]? = some (.cells #[.int .u8 (b.x0 : Int), .int .u8 (b.x1 : Int), .int .u8 (b.x2 : Int), .int .u8 (b.x3 : Int), .int .u8 (b.x4 : Int), .int .u8 (b.x5 : Int), .int .u8 (b.x6 : Int), .int .u8 (b.x7 : Int)] 22 (0, 0))) → (Instr.loadAt 22 (.pointer (some ⟨w.heap.size + 1, 0, none⟩))).run Tryz.prog w' = .ok (.agg #[.int .u8 (b.x0 : Int), .int .u8 (b.x1 : Int), .int .u8 (b.x2 : Int), .int .u8 (b.x3 : Int), .int .u8 (b.x4 : Int), .int .u8 (b.x5 : Int), .int .u8 (b.x6 : Int), .int .u8 (b.x7 : Int)]) w' := fun w' h => load_d8 h.2.2
  have hS0 : Below w.heap.size w v0.drew ∧ v0.drew.heap[w.heap.size]? = some (.cells #[.int .u8 (a.x0 : Int), .int .u8 (a.x1 : Int), .int .u8 (a.x2 : Int), .int .u8 (a.x3 : Int), .int .u8 (a.x4 : Int), .int .u8 (a.x5 : Int), .int .u8 (a.x6 : Int), .int .u8 (a.x7 : Int)] 22 (0, 0)) ∧ v0.drew.heap[w.heap.size + 1]? = some (.cells #[.int .u8 (b.x0 : Int), .int .u8 (b.x1 : Int), .int .u8 (b.x2 : Int), .int .u8 (b.x3 : Int), .int .u8 (b.x4 : Int), .int .u8 (b.x5 : Int), .int .u8 (b.x6 : Int), .int .u8 (b.x7 : Int)] 22 (0, 0)) := ⟨H0.out.1.drew, H0.out.2⟩
  have Hd0 := Lib.hid hS0
  have HXd0 : Hid (v0.drew.heap[w.heap.size + 1 + 1]? = some (.cells #[.int .u8 0, .int .u8 0, .int .u8 0, .int .u8 0, .int .u8 0, .int .u8 0, .int .u8 0, .int .u8 0] 22 (0, 0))) := HX0
  refine wp_region_held_drew (S := fun w' => Below w.heap.size w w' ∧ w'.heap[w.heap.size]? = some (.cells #[.int .u8 (a.x0 : Int), .int .u8 (a.x1 : Int), .int .u8 (a.x2 : Int), .int .u8 (a.x3 : Int), .int .u8 (a.x4 : Int), .int .u8 (a.x5 : Int), .int .u8 (a.x6 : Int), .int .u8 (a.x7 : Int)] 22 (0, 0)) ∧ w'.heap[w.heap.size + 1]? = some (.cells #[.int .u8 (b.x0 : Int), .int .u8 (b.x1 : Int), .int .u8 (b.x2 : Int), .int .u8 (b.x3 : Int), .int .u8 (b.x4 : Int), .int .u8 (b.x5 : Int), .int .u8 (b.x6 : Int), .int .u8 (b.x7 : Int)] 22 (0, 0))) (by kernel_rfl) hS0 (fun hHeld => ?_)
  rw [show Array.replicate _ false = (#[false, false, false, false, false, false, false, false, false] : Array Bool) from rfl]
  refine takeH 1 (some 6) (v := .agg #[.int .u8 (a.x0 : Int), .int .u8 (a.x1 : Int), .int .u8 (a.x2 : Int), .int .u8 (a.x3 : Int), .int .u8 (a.x4 : Int), .int .u8 (a.x5 : Int), .int .u8 (a.x6 : Int), .int .u8 (a.x7 : Int)]) rfl (by kernel_rfl) (by kernel_rfl) (by kernel_rfl) (by kernel_rfl) (fun _ _ _ h => h) (Or.inl ⟨by kernel_rfl, ?hy⟩) (by assumption) ?_
  case hy =>
    intro w' hSw
    simp [execOp, Act.eval, hLa w' hSw, Result.andThen]
  simp only [Act.put, List.setIfInBounds_toArray, List.set_cons_zero, List.set_cons_succ]
  refine takeH 4 (some 9) (v := .agg #[.int .u8 (b.x0 : Int), .int .u8 (b.x1 : Int), .int .u8 (b.x2 : Int), .int .u8 (b.x3 : Int), .int .u8 (b.x4 : Int), .int .u8 (b.x5 : Int), .int .u8 (b.x6 : Int), .int .u8 (b.x7 : Int)]) rfl (by kernel_rfl) (by kernel_rfl) (by kernel_rfl) (by kernel_rfl) (fun _ _ _ h => h) (Or.inl ⟨by kernel_rfl, ?hy⟩) (by assumption) ?_
  case hy =>
    intro w' hSw
    simp [execOp, Act.eval, hLb w' hSw, Result.andThen]
  simp only [Act.put, List.setIfInBounds_toArray, List.set_cons_zero, List.set_cons_succ]
  clear hLa hLb hS0
  refine wpAnyH_ready (rs := [0]) (by kernel_rfl) (by simp) ?_
  refine AllReadyH.cons rfl (fun K hK => ?_) AllReadyH.nil
  rw [if_pos (by kernel_rfl)]
  go_simp
  refine (HBG.out _).mono ?_
  rintro e v1 ⟨rfl, hb⟩
  have H1 := Lib.hid (And.intro (Hd0.out.1.trans (hb.mono Hd0.out.1.size)) (And.intro (block_below Hd0.out.2.1 hb (block_lt Hd0.out.2.1)) (block_below Hd0.out.2.2 hb (block_lt Hd0.out.2.2))))
  have HX1 := Lib.hid (block_below HXd0.out hb (block_lt HXd0.out))
  clear hb
  refine hK.out _ _ H1.out (fun _ => ?_)
  clear hK K
  simp only [List.setIfInBounds_toArray, List.set_cons_zero]
  refine wpAnyH_ready (rs := [2]) (by kernel_rfl) (by simp) ?_
  refine AllReadyH.cons rfl (fun K hK => ?_) AllReadyH.nil
  rw [if_pos (by kernel_rfl)]
  go_simp
  refine (HNA.out _).mono ?_
  rintro e v2 ⟨rfl, hb⟩
  have H2 := Lib.hid (And.intro (H1.out.1.trans (hb.mono H1.out.1.size)) (And.intro (block_below H1.out.2.1 hb (block_lt H1.out.2.1)) (block_below H1.out.2.2 hb (block_lt H1.out.2.2))))
  have HX2 := Lib.hid (block_below HX1.out hb (block_lt HX1.out))
  clear hb
  refine hK.out _ _ H2.out (fun _ => ?_)
  clear hK K
  simp only [List.setIfInBounds_toArray, List.set_cons_zero, List.set_cons_succ]
  refine wpAnyH_ready (rs := [3]) (by kernel_rfl) (by simp) ?_
  refine AllReadyH.cons rfl (fun K hK => ?_) AllReadyH.nil
  rw [if_pos (by kernel_rfl)]
  go_simp
  refine (HIA.out _).mono ?_
  rintro e v3 ⟨rfl, hb⟩
  have H3 := Lib.hid (And.intro (H2.out.1.trans (hb.mono H2.out.1.size)) (And.intro (block_below H2.out.2.1 hb (block_lt H2.out.2.1)) (block_below H2.out.2.2 hb (block_lt H2.out.2.2))))
  have HX3 := Lib.hid (block_below HX2.out hb (block_lt HX2.out))
  clear hb
  refine hK.out _ _ H3.out (fun _ => ?_)
  clear hK K
  simp only [List.setIfInBounds_toArray, List.set_cons_zero, List.set_cons_succ]
  refine wpAnyH_ready (rs := [5]) (by kernel_rfl) (by simp) ?_
  refine AllReadyH.cons rfl (fun K hK => ?_) AllReadyH.nil
  rw [if_pos (by kernel_rfl)]
  go_simp
  refine (HNB.out _).mono ?_
  rintro e v4 ⟨rfl, hb⟩
  have H4 := Lib.hid (And.intro (H3.out.1.trans (hb.mono H3.out.1.size)) (And.intro (block_below H3.out.2.1 hb (block_lt H3.out.2.1)) (block_below H3.out.2.2 hb (block_lt H3.out.2.2))))
  have HX4 := Lib.hid (block_below HX3.out hb (block_lt HX3.out))
  clear hb
  refine hK.out _ _ H4.out (fun _ => ?_)
  clear hK K
  simp only [List.setIfInBounds_toArray, List.set_cons_zero, List.set_cons_succ]
  refine wpAnyH_ready (rs := [6]) (by kernel_rfl) (by simp) ?_
  refine AllReadyH.cons rfl (fun K hK => ?_) AllReadyH.nil
  rw [if_pos (by kernel_rfl)]
  go_simp
  refine (HIB.out _).mono ?_
  rintro e v5 ⟨rfl, hb⟩
  have H5 := Lib.hid (And.intro (H4.out.1.trans (hb.mono H4.out.1.size)) (And.intro (block_below H4.out.2.1 hb (block_lt H4.out.2.1)) (block_below H4.out.2.2 hb (block_lt H4.out.2.2))))
  have HX5 := Lib.hid (block_below HX4.out hb (block_lt HX4.out))
  clear hb
  refine hK.out _ _ H5.out (fun _ => ?_)
  clear hK K
  simp only [List.setIfInBounds_toArray, List.set_cons_zero, List.set_cons_succ]
  refine wpAnyH_ready (rs := [7]) (by kernel_rfl) (by simp) ?_
  refine AllReadyH.cons rfl (fun K hK => ?_) AllReadyH.nil
  rw [if_pos (by kernel_rfl)]
  go_simp
  refine (HOU.out _).mono ?_
  rintro e v6 ⟨rfl, hb⟩
  have H6 := Lib.hid (And.intro (H5.out.1.trans (hb.mono H5.out.1.size)) (And.intro (block_below H5.out.2.1 hb (block_lt H5.out.2.1)) (block_below H5.out.2.2 hb (block_lt H5.out.2.2))))
  have HX6 := Lib.hid (block_below HX5.out hb (block_lt HX5.out))
  clear hb
  refine hK.out _ _ H6.out (fun _ => ?_)
  clear hK K
  simp only [List.setIfInBounds_toArray, List.set_cons_zero, List.set_cons_succ]
  obtain ⟨zf, r0, r1, r2, r3, r4, r5, r6, r7⟩ := free8 HX6.out
  have hlx := block_lt HX6.out
  have h8 := set8 HX6.out (.int .u8 (dd.x0 : Int)) (.int .u8 (dd.x1 : Int)) (.int .u8 (dd.x2 : Int)) (.int .u8 (dd.x3 : Int)) (.int .u8 (dd.x4 : Int)) (.int .u8 (dd.x5 : Int)) (.int .u8 (dd.x6 : Int)) (.int .u8 (dd.x7 : Int))
  have hg8 := grown_set8 v6 (w.heap.size + 1 + 1) (.int .u8 (dd.x0 : Int)) (.int .u8 (dd.x1 : Int)) (.int .u8 (dd.x2 : Int)) (.int .u8 (dd.x3 : Int)) (.int .u8 (dd.x4 : Int)) (.int .u8 (dd.x5 : Int)) (.int .u8 (dd.x6 : Int)) (.int .u8 (dd.x7 : Int))
  have hS7 : Below w.heap.size w ((((((((v6.setCell ⟨w.heap.size + 1 + 1, 0, none⟩ (.int .u8 (dd.x0 : Int))).setCell ⟨w.heap.size + 1 + 1, 1, none⟩ (.int .u8 (dd.x1 : Int))).setCell ⟨w.heap.size + 1 + 1, 2, none⟩ (.int .u8 (dd.x2 : Int))).setCell ⟨w.heap.size + 1 + 1, 3, none⟩ (.int .u8 (dd.x3 : Int))).setCell ⟨w.heap.size + 1 + 1, 4, none⟩ (.int .u8 (dd.x4 : Int))).setCell ⟨w.heap.size + 1 + 1, 5, none⟩ (.int .u8 (dd.x5 : Int))).setCell ⟨w.heap.size + 1 + 1, 6, none⟩ (.int .u8 (dd.x6 : Int))).setCell ⟨w.heap.size + 1 + 1, 7, none⟩ (.int .u8 (dd.x7 : Int))) ∧ (((((((((v6.setCell ⟨w.heap.size + 1 + 1, 0, none⟩ (.int .u8 (dd.x0 : Int))).setCell ⟨w.heap.size + 1 + 1, 1, none⟩ (.int .u8 (dd.x1 : Int))).setCell ⟨w.heap.size + 1 + 1, 2, none⟩ (.int .u8 (dd.x2 : Int))).setCell ⟨w.heap.size + 1 + 1, 3, none⟩ (.int .u8 (dd.x3 : Int))).setCell ⟨w.heap.size + 1 + 1, 4, none⟩ (.int .u8 (dd.x4 : Int))).setCell ⟨w.heap.size + 1 + 1, 5, none⟩ (.int .u8 (dd.x5 : Int))).setCell ⟨w.heap.size + 1 + 1, 6, none⟩ (.int .u8 (dd.x6 : Int))).setCell ⟨w.heap.size + 1 + 1, 7, none⟩ (.int .u8 (dd.x7 : Int)))).heap[w.heap.size]? = some (.cells #[.int .u8 (a.x0 : Int), .int .u8 (a.x1 : Int), .int .u8 (a.x2 : Int), .int .u8 (a.x3 : Int), .int .u8 (a.x4 : Int), .int .u8 (a.x5 : Int), .int .u8 (a.x6 : Int), .int .u8 (a.x7 : Int)] 22 (0, 0)) ∧ (((((((((v6.setCell ⟨w.heap.size + 1 + 1, 0, none⟩ (.int .u8 (dd.x0 : Int))).setCell ⟨w.heap.size + 1 + 1, 1, none⟩ (.int .u8 (dd.x1 : Int))).setCell ⟨w.heap.size + 1 + 1, 2, none⟩ (.int .u8 (dd.x2 : Int))).setCell ⟨w.heap.size + 1 + 1, 3, none⟩ (.int .u8 (dd.x3 : Int))).setCell ⟨w.heap.size + 1 + 1, 4, none⟩ (.int .u8 (dd.x4 : Int))).setCell ⟨w.heap.size + 1 + 1, 5, none⟩ (.int .u8 (dd.x5 : Int))).setCell ⟨w.heap.size + 1 + 1, 6, none⟩ (.int .u8 (dd.x6 : Int))).setCell ⟨w.heap.size + 1 + 1, 7, none⟩ (.int .u8 (dd.x7 : Int)))).heap[w.heap.size + 1]? = some (.cells #[.int .u8 (b.x0 : Int), .int .u8 (b.x1 : Int), .int .u8 (b.x2 : Int), .int .u8 (b.x3 : Int), .int .u8 (b.x4 : Int), .int .u8 (b.x5 : Int), .int .u8 (b.x6 : Int), .int .u8 (b.x7 : Int)] 22 (0, 0)) := ⟨H6.out.1.grown hg8 H6.out.1.size (fun k hk => by injection hk with hk; omega), (hg8.block _ (block_lt H6.out.2.1) (by intro e; injection e with e; omega)).trans H6.out.2.1, (hg8.block _ (block_lt H6.out.2.2) (by intro e; injection e with e; omega)).trans H6.out.2.2⟩
  refine wpAnyH_ready (rs := [8]) (by kernel_rfl) (by simp) ?_
  refine AllReadyH.cons rfl (fun K hK => ?_) AllReadyH.nil
  rw [if_pos (by kernel_rfl)]
  go_simp
  refine hK.out _ _ hS7 (fun _ => ?_)
  clear hK K
  simp only [List.setIfInBounds_toArray, List.set_cons_zero, List.set_cons_succ]
  refine wpAnyH_done (by kernel_rfl) ?_ _
  have Hb7 := Lib.hid hS7.1
  clear hS7 hg8 zf r0 r1 r2 r3 r4 r5 r6 r7
  generalize ((((((((v6.setCell ⟨w.heap.size + 1 + 1, 0, none⟩ (.int .u8 (dd.x0 : Int))).setCell ⟨w.heap.size + 1 + 1, 1, none⟩ (.int .u8 (dd.x1 : Int))).setCell ⟨w.heap.size + 1 + 1, 2, none⟩ (.int .u8 (dd.x2 : Int))).setCell ⟨w.heap.size + 1 + 1, 3, none⟩ (.int .u8 (dd.x3 : Int))).setCell ⟨w.heap.size + 1 + 1, 4, none⟩ (.int .u8 (dd.x4 : Int))).setCell ⟨w.heap.size + 1 + 1, 5, none⟩ (.int .u8 (dd.x5 : Int))).setCell ⟨w.heap.size + 1 + 1, 6, none⟩ (.int .u8 (dd.x6 : Int))).setCell ⟨w.heap.size + 1 + 1, 7, none⟩ (.int .u8 (dd.x7 : Int))) = v7 at *
  obtain ⟨zf, r0, r1, r2, r3, r4, r5, r6, r7⟩ := free8 h8
  go_wp2
  refine bodyPost_ret (v := .agg #[.int .u8 (dd.x0 : Int), .int .u8 (dd.x1 : Int), .int .u8 (dd.x2 : Int), .int .u8 (dd.x3 : Int), .int .u8 (dd.x4 : Int), .int .u8 (dd.x5 : Int), .int .u8 (dd.x6 : Int), .int .u8 (dd.x7 : Int)]) (by simp [results, Tryz.results60, go_sem, r0, r1, r2, r3, r4, r5, r6, r7]) rfl ⟨by rw [Hres.out], Hb7.out⟩
set_option maxRecDepth 100000 in
set_option maxHeartbeats 4000000 in
theorem rword_any (d : D8) (s : ByteArray) (w : World) (hd : d.ok) (hn : s.size ≤ 1000000) :
    Calls Tryz.prog 61 #[.agg #[.int .u8 (d.x0 : Int), .int .u8 (d.x1 : Int), .int .u8 (d.x2 : Int), .int .u8 (d.x3 : Int), .int .u8 (d.x4 : Int), .int .u8 (d.x5 : Int), .int .u8 (d.x6 : Int), .int .u8 (d.x7 : Int)], .string s] w fun e w' => e = .returned (.agg #[.int .u8 ((hashWord d (wordB s)).x0 : Int), .int .u8 ((hashWord d (wordB s)).x1 : Int), .int .u8 ((hashWord d (wordB s)).x2 : Int), .int .u8 ((hashWord d (wordB s)).x3 : Int), .int .u8 ((hashWord d (wordB s)).x4 : Int), .int .u8 ((hashWord d (wordB s)).x5 : Int), .int .u8 ((hashWord d (wordB s)).x6 : Int), .int .u8 ((hashWord d (wordB s)).x7 : Int)]) ∧ Below w.heap.size w w' := by
  obtain ⟨ha0, hx0, hw0, hz0⟩ := alloc2 w (.cells #[.int .u8 (d.x0 : Int), .int .u8 (d.x1 : Int), .int .u8 (d.x2 : Int), .int .u8 (d.x3 : Int), .int .u8 (d.x4 : Int), .int .u8 (d.x5 : Int), .int .u8 (d.x6 : Int), .int .u8 (d.x7 : Int)] 22) (.cells #[.int .u8 0, .int .u8 0, .int .u8 0, .int .u8 0, .int .u8 0, .int .u8 0, .int .u8 0, .int .u8 0] 22)
  obtain ⟨s0, hs0⟩ : ∃ s0, s0 = Hs.begin 4 := ⟨_, rfl⟩
  obtain ⟨s1, hs1⟩ : ∃ s1, s1 = s0.take (d.num : Int) := ⟨_, rfl⟩
  obtain ⟨s2, hs2⟩ : ∃ s2, s2 = s1.bytes (wordB s) := ⟨_, rfl⟩
  obtain ⟨dd, hdd⟩ : ∃ dd, dd = s2.out := ⟨_, rfl⟩
  have HBG := Lib.hid (fun u => beginr_any 4 u); have HNM := Lib.hid (fun u => rnum_any d u hd); have HIN := Lib.hid (fun u => in_any s0 (d.num : Int) u); have HOU := Lib.hid (fun u => outr_any s2 u)
  have HBT := Lib.hid (fun (u : World) (A : Option Addr) (c : Nat) (_ : s.size ≤ c) (hr : Rd u u.heap.size 1 A s.size (bv (wordB s))) => hbytesr_any s1 A s.size c (wordB s) u hr (by omega) (wordB_lt s))
  have Hres : Hid (hashWord d (wordB s) = dd) := Lib.hid (by rw [hdd, hs2, hs1, hs0]; rfl)
  rw [← hs0] at HBG; rw [← hs1] at HIN; rw [← hs2] at HBT; rw [← hdd] at HOU
  have HX0 := Lib.hid hx0; have H0 := Lib.hid (And.intro hw0 ha0)
  have hcv : ∀ u : World, _ := fun u => Go.Lib.run_convert_string_bytes (P := Tryz.prog) u 9 23 5 s Tryz.underlying9 Tryz.underlying23 Tryz.underlying5
  clear hd ha0 hx0 hw0 hz0 hs0 hs1 hs2 hdd
  go_enter Tryz.func61, Tryz.ntmps61
  go_upto_region 1 with fail
  generalize (w.alloc (.cells #[.int .u8 (d.x0 : Int), .int .u8 (d.x1 : Int), .int .u8 (d.x2 : Int), .int .u8 (d.x3 : Int), .int .u8 (d.x4 : Int), .int .u8 (d.x5 : Int), .int .u8 (d.x6 : Int), .int .u8 (d.x7 : Int)] 22)).alloc (.cells #[.int .u8 0, .int .u8 0, .int .u8 0, .int .u8 0, .int .u8 0, .int .u8 0, .int .u8 0, .int .u8 0] 22) = v0 at *
  have hL : ∀ w', (Below w.heap.size w w' ∧ w'.heap[w.heap.size]? = some (.cells #[.int .u8 (d.x0 : Int), .int .u8 (d.x1 : Int), .int .u8 (d.x2 : Int), .int .u8 (d.x3 : Int), .int .u8 (d.x4 : Int), .int .u8 (d.x5 : Int), .int .u8 (d.x6 : Int), .int .u8 (d.x7 : Int)] 22 (0, 0))) → (Instr.loadAt 22 (.pointer (some ⟨w.heap.size, 0, none⟩))).run Tryz.prog w' = .ok (.agg #[.int .u8 (d.x0 : Int), .int .u8 (d.x1 : Int), .int .u8 (d.x2 : Int), .int .u8 (d.x3 : Int), .int .u8 (d.x4 : Int), .int .u8 (d.x5 : Int), .int .u8 (d.x6 : Int), .int .u8 (d.x7 : Int)]) w' := fun w' h => load_d8 h.2
  have hS0 : Below w.heap.size w v0.drew ∧ v0.drew.heap[w.heap.size]? = some (.cells #[.int .u8 (d.x0 : Int), .int .u8 (d.x1 : Int), .int .u8 (d.x2 : Int), .int .u8 (d.x3 : Int), .int .u8 (d.x4 : Int), .int .u8 (d.x5 : Int), .int .u8 (d.x6 : Int), .int .u8 (d.x7 : Int)] 22 (0, 0)) := ⟨H0.out.1.drew, H0.out.2⟩
  have Hd0 := Lib.hid hS0
  have HXd0 : Hid (v0.drew.heap[w.heap.size + 1]? = some (.cells #[.int .u8 0, .int .u8 0, .int .u8 0, .int .u8 0, .int .u8 0, .int .u8 0, .int .u8 0, .int .u8 0] 22 (0, 0))) := HX0
  refine wp_region_held_drew (S := fun w' => Below w.heap.size w w' ∧ w'.heap[w.heap.size]? = some (.cells #[.int .u8 (d.x0 : Int), .int .u8 (d.x1 : Int), .int .u8 (d.x2 : Int), .int .u8 (d.x3 : Int), .int .u8 (d.x4 : Int), .int .u8 (d.x5 : Int), .int .u8 (d.x6 : Int), .int .u8 (d.x7 : Int)] 22 (0, 0))) (by kernel_rfl) hS0 (fun hHeld => ?_)
  rw [show Array.replicate _ false = (#[false, false, false, false, false, false, false, false, false] : Array Bool) from rfl]
  refine takeH 1 (some 6) (v := .agg #[.int .u8 (d.x0 : Int), .int .u8 (d.x1 : Int), .int .u8 (d.x2 : Int), .int .u8 (d.x3 : Int), .int .u8 (d.x4 : Int), .int .u8 (d.x5 : Int), .int .u8 (d.x6 : Int), .int .u8 (d.x7 : Int)]) rfl (by kernel_rfl) (by kernel_rfl) (by kernel_rfl) (by kernel_rfl) (fun _ _ _ h => h) (Or.inl ⟨by kernel_rfl, ?hy⟩) (by assumption) ?_
  case hy =>
    intro w' hSw
    simp [execOp, Act.eval, hL w' hSw, Result.andThen]
  simp only [Act.put, List.setIfInBounds_toArray, List.set_cons_zero, List.set_cons_succ]
  refine takeH 4 (some 9) (v := ?_) rfl (by kernel_rfl) (by kernel_rfl) (by kernel_rfl) (by kernel_rfl) (fun _ _ _ h => h) (Or.inl ⟨by kernel_rfl, ?hy⟩) (by assumption) ?_
  case hy =>
    intro w' hSw
    clear hSw
    first
      | (go_simp; done)
      | (go_simp; with_reducible rfl)
  simp only [Act.put, List.setIfInBounds_toArray, List.set_cons_zero, List.set_cons_succ]
  clear hL hS0
  generalize v0.drew = u0 at *
  refine wpAnyH_ready (rs := [0, 5]) (by kernel_rfl) (by simp) ?_
  refine AllReadyH.cons rfl (fun K hK => ?_) (AllReadyH.cons rfl (fun K hK => ?_) AllReadyH.nil)
  ·
    rw [if_pos (by kernel_rfl)]
    go_simp
    refine (HBG.out _).mono ?_
    rintro e v1 ⟨rfl, hb⟩
    have H1 := Lib.hid (And.intro (Hd0.out.1.trans (hb.mono Hd0.out.1.size)) (block_below Hd0.out.2 hb (block_lt Hd0.out.2)))
    have HX1 := Lib.hid (block_below HXd0.out hb (block_lt HXd0.out))
    clear hb
    refine hK.out _ _ H1.out (fun _ => ?_)
    clear hK K
    simp only [List.setIfInBounds_toArray, List.set_cons_zero]
    refine wpAnyH_ready (rs := [2, 5]) (by kernel_rfl) (by simp) ?_
    refine AllReadyH.cons rfl (fun K hK => ?_) (AllReadyH.cons rfl (fun K hK => ?_) AllReadyH.nil)
    ·
      rw [if_pos (by kernel_rfl)]
      go_simp
      refine (HNM.out _).mono ?_
      rintro e v2 ⟨rfl, hb⟩
      have H2 := Lib.hid (And.intro (H1.out.1.trans (hb.mono H1.out.1.size)) (block_below H1.out.2 hb (block_lt H1.out.2)))
      have HX2 := Lib.hid (block_below HX1.out hb (block_lt HX1.out))
      clear hb
      refine hK.out _ _ H2.out (fun _ => ?_)
      clear hK K
      simp only [List.setIfInBounds_toArray, List.set_cons_zero, List.set_cons_succ]
      refine wpAnyH_ready (rs := [3, 5]) (by kernel_rfl) (by simp) ?_
      refine AllReadyH.cons rfl (fun K hK => ?_) (AllReadyH.cons rfl (fun K hK => ?_) AllReadyH.nil)
      ·
        rw [if_pos (by kernel_rfl)]
        go_simp
        refine (HIN.out _).mono ?_
        rintro e v3 ⟨rfl, hb⟩
        have H3 := Lib.hid (And.intro (H2.out.1.trans (hb.mono H2.out.1.size)) (block_below H2.out.2 hb (block_lt H2.out.2)))
        have HX3 := Lib.hid (block_below HX2.out hb (block_lt HX2.out))
        clear hb
        refine hK.out _ _ H3.out (fun _ => ?_)
        clear hK K
        simp only [List.setIfInBounds_toArray, List.set_cons_zero, List.set_cons_succ]
        refine wpAnyH_ready (rs := [5]) (by kernel_rfl) (by simp) ?_
        refine AllReadyH.cons rfl (fun K hK => ?_) AllReadyH.nil
        rw [if_pos (by kernel_rfl)]
        go_simp
        try (rw [hcv v3]; simp only [Result.andThen_ok])
        have hbb := bytesW_below v3 5 s
        have hcap := grownCap_ge v3 s.size 0 5
        have H4 := Lib.hid (And.intro (H3.out.1.trans (hbb.mono H3.out.1.size)) (block_below H3.out.2 hbb (block_lt H3.out.2)))
        have HX4 := Lib.hid (block_below HX3.out hbb (block_lt HX3.out))
        have R4 := Lib.hid (word_rd v3 s)
        generalize bytesWorld v3 5 s = v4 at *
        generalize grownCap v3 s.size 0 5 = cap at *
        clear hbb
        refine hK.out _ _ H4.out (fun _ => ?_)
        clear hK K
        simp only [List.setIfInBounds_toArray, List.set_cons_zero, List.set_cons_succ]
        refine wpAnyH_ready (rs := [6]) (by kernel_rfl) (by simp) ?_
        refine AllReadyH.cons rfl (fun K hK => ?_) AllReadyH.nil
        rw [if_pos (by kernel_rfl)]
        go_simp
        refine (HBT.out _ _ _ hcap R4.out).mono ?_
        rintro e y1 ⟨rfl, hb⟩
        have K1 := Lib.hid (And.intro (H4.out.1.trans (hb.mono H4.out.1.size)) (block_below H4.out.2 hb (block_lt H4.out.2)))
        have KX1 := Lib.hid (block_below HX4.out hb (block_lt HX4.out))
        have KR1 := Lib.hid ((R4.out.below hb (Nat.le_refl _)).more hb.size)
        clear hb
        refine hK.out _ _ K1.out (fun _ => ?_)
        clear hK K
        simp only [List.setIfInBounds_toArray, List.set_cons_zero, List.set_cons_succ]
        refine wpAnyH_ready (rs := [7]) (by kernel_rfl) (by simp) ?_
        refine AllReadyH.cons rfl (fun K hK => ?_) AllReadyH.nil
        rw [if_pos (by kernel_rfl)]
        go_simp
        refine (HOU.out _).mono ?_
        rintro e y2 ⟨rfl, hb⟩
        have K2 := Lib.hid (And.intro (K1.out.1.trans (hb.mono K1.out.1.size)) (block_below K1.out.2 hb (block_lt K1.out.2)))
        have KX2 := Lib.hid (block_below KX1.out hb (block_lt KX1.out))
        have KR2 := Lib.hid ((KR1.out.below hb (Nat.le_refl _)).more hb.size)
        clear hb
        refine hK.out _ _ K2.out (fun _ => ?_)
        clear hK K
        simp only [List.setIfInBounds_toArray, List.set_cons_zero, List.set_cons_succ]
        obtain ⟨zf, r0, r1, r2, r3, r4, r5, r6, r7⟩ := free8 KX2.out
        have hlx := block_lt KX2.out
        have h8 := set8 KX2.out (.int .u8 (dd.x0 : Int)) (.int .u8 (dd.x1 : Int)) (.int .u8 (dd.x2 : Int)) (.int .u8 (dd.x3 : Int)) (.int .u8 (dd.x4 : Int)) (.int .u8 (dd.x5 : Int)) (.int .u8 (dd.x6 : Int)) (.int .u8 (dd.x7 : Int))
        have hg8 := grown_set8 y2 (w.heap.size + 1) (.int .u8 (dd.x0 : Int)) (.int .u8 (dd.x1 : Int)) (.int .u8 (dd.x2 : Int)) (.int .u8 (dd.x3 : Int)) (.int .u8 (dd.x4 : Int)) (.int .u8 (dd.x5 : Int)) (.int .u8 (dd.x6 : Int)) (.int .u8 (dd.x7 : Int))
        have hS5 : Below w.heap.size w ((((((((y2.setCell ⟨w.heap.size + 1, 0, none⟩ (.int .u8 (dd.x0 : Int))).setCell ⟨w.heap.size + 1, 1, none⟩ (.int .u8 (dd.x1 : Int))).setCell ⟨w.heap.size + 1, 2, none⟩ (.int .u8 (dd.x2 : Int))).setCell ⟨w.heap.size + 1, 3, none⟩ (.int .u8 (dd.x3 : Int))).setCell ⟨w.heap.size + 1, 4, none⟩ (.int .u8 (dd.x4 : Int))).setCell ⟨w.heap.size + 1, 5, none⟩ (.int .u8 (dd.x5 : Int))).setCell ⟨w.heap.size + 1, 6, none⟩ (.int .u8 (dd.x6 : Int))).setCell ⟨w.heap.size + 1, 7, none⟩ (.int .u8 (dd.x7 : Int))) ∧ (((((((((y2.setCell ⟨w.heap.size + 1, 0, none⟩ (.int .u8 (dd.x0 : Int))).setCell ⟨w.heap.size + 1, 1, none⟩ (.int .u8 (dd.x1 : Int))).setCell ⟨w.heap.size + 1, 2, none⟩ (.int .u8 (dd.x2 : Int))).setCell ⟨w.heap.size + 1, 3, none⟩ (.int .u8 (dd.x3 : Int))).setCell ⟨w.heap.size + 1, 4, none⟩ (.int .u8 (dd.x4 : Int))).setCell ⟨w.heap.size + 1, 5, none⟩ (.int .u8 (dd.x5 : Int))).setCell ⟨w.heap.size + 1, 6, none⟩ (.int .u8 (dd.x6 : Int))).setCell ⟨w.heap.size + 1, 7, none⟩ (.int .u8 (dd.x7 : Int)))).heap[w.heap.size]? = some (.cells #[.int .u8 (d.x0 : Int), .int .u8 (d.x1 : Int), .int .u8 (d.x2 : Int), .int .u8 (d.x3 : Int), .int .u8 (d.x4 : Int), .int .u8 (d.x5 : Int), .int .u8 (d.x6 : Int), .int .u8 (d.x7 : Int)] 22 (0, 0)) := ⟨K2.out.1.grown hg8 K2.out.1.size (fun k hk => by injection hk with hk; omega), (hg8.block _ (block_lt K2.out.2) (by intro e; injection e with e; omega)).trans K2.out.2⟩
        refine wpAnyH_ready (rs := [8]) (by kernel_rfl) (by simp) ?_
        refine AllReadyH.cons rfl (fun K hK => ?_) AllReadyH.nil
        rw [if_pos (by kernel_rfl)]
        go_simp
        refine hK.out _ _ hS5 (fun _ => ?_)
        clear hK K
        simp only [List.setIfInBounds_toArray, List.set_cons_zero, List.set_cons_succ]
        refine wpAnyH_done (by kernel_rfl) ?_ _
        have Hb5 := Lib.hid hS5.1
        clear hS5 hg8 zf r0 r1 r2 r3 r4 r5 r6 r7 hcv
        generalize ((((((((y2.setCell ⟨w.heap.size + 1, 0, none⟩ (.int .u8 (dd.x0 : Int))).setCell ⟨w.heap.size + 1, 1, none⟩ (.int .u8 (dd.x1 : Int))).setCell ⟨w.heap.size + 1, 2, none⟩ (.int .u8 (dd.x2 : Int))).setCell ⟨w.heap.size + 1, 3, none⟩ (.int .u8 (dd.x3 : Int))).setCell ⟨w.heap.size + 1, 4, none⟩ (.int .u8 (dd.x4 : Int))).setCell ⟨w.heap.size + 1, 5, none⟩ (.int .u8 (dd.x5 : Int))).setCell ⟨w.heap.size + 1, 6, none⟩ (.int .u8 (dd.x6 : Int))).setCell ⟨w.heap.size + 1, 7, none⟩ (.int .u8 (dd.x7 : Int))) = v5 at *
        obtain ⟨zf, r0, r1, r2, r3, r4, r5, r6, r7⟩ := free8 h8
        go_wp2
        refine bodyPost_ret (v := .agg #[.int .u8 (dd.x0 : Int), .int .u8 (dd.x1 : Int), .int .u8 (dd.x2 : Int), .int .u8 (dd.x3 : Int), .int .u8 (dd.x4 : Int), .int .u8 (dd.x5 : Int), .int .u8 (dd.x6 : Int), .int .u8 (dd.x7 : Int)]) (by simp [results, Tryz.results61, go_sem, r0, r1, r2, r3, r4, r5, r6, r7]) rfl ⟨by rw [Hres.out], Hb5.out⟩
      · rw [if_pos (by kernel_rfl)]
        go_simp
        try (rw [hcv v2]; simp only [Result.andThen_ok])
        have hbb := bytesW_below v2 5 s
        have hcap := grownCap_ge v2 s.size 0 5
        have H3 := Lib.hid (And.intro (H2.out.1.trans (hbb.mono H2.out.1.size)) (block_below H2.out.2 hbb (block_lt H2.out.2)))
        have HX3 := Lib.hid (block_below HX2.out hbb (block_lt HX2.out))
        have R3 := Lib.hid (word_rd v2 s)
        generalize bytesWorld v2 5 s = v3 at *
        generalize grownCap v2 s.size 0 5 = cap at *
        clear hbb
        refine hK.out _ _ H3.out (fun _ => ?_)
        clear hK K
        simp only [List.setIfInBounds_toArray, List.set_cons_zero, List.set_cons_succ]
        refine wpAnyH_ready (rs := [3]) (by kernel_rfl) (by simp) ?_
        refine AllReadyH.cons rfl (fun K hK => ?_) AllReadyH.nil
        rw [if_pos (by kernel_rfl)]
        go_simp
        refine (HIN.out _).mono ?_
        rintro e v4 ⟨rfl, hb⟩
        have H4 := Lib.hid (And.intro (H3.out.1.trans (hb.mono H3.out.1.size)) (block_below H3.out.2 hb (block_lt H3.out.2)))
        have HX4 := Lib.hid (block_below HX3.out hb (block_lt HX3.out))
        have R4 := Lib.hid ((R3.out.below hb (Nat.le_refl _)).more hb.size)
        clear hb
        refine hK.out _ _ H4.out (fun _ => ?_)
        clear hK K
        simp only [List.setIfInBounds_toArray, List.set_cons_zero, List.set_cons_succ]
        refine wpAnyH_ready (rs := [6]) (by kernel_rfl) (by simp) ?_
        refine AllReadyH.cons rfl (fun K hK => ?_) AllReadyH.nil
        rw [if_pos (by kernel_rfl)]
        go_simp
        refine (HBT.out _ _ _ hcap R4.out).mono ?_
        rintro e y1 ⟨rfl, hb⟩
        have K1 := Lib.hid (And.intro (H4.out.1.trans (hb.mono H4.out.1.size)) (block_below H4.out.2 hb (block_lt H4.out.2)))
        have KX1 := Lib.hid (block_below HX4.out hb (block_lt HX4.out))
        have KR1 := Lib.hid ((R4.out.below hb (Nat.le_refl _)).more hb.size)
        clear hb
        refine hK.out _ _ K1.out (fun _ => ?_)
        clear hK K
        simp only [List.setIfInBounds_toArray, List.set_cons_zero, List.set_cons_succ]
        refine wpAnyH_ready (rs := [7]) (by kernel_rfl) (by simp) ?_
        refine AllReadyH.cons rfl (fun K hK => ?_) AllReadyH.nil
        rw [if_pos (by kernel_rfl)]
        go_simp
        refine (HOU.out _).mono ?_
        rintro e y2 ⟨rfl, hb⟩
        have K2 := Lib.hid (And.intro (K1.out.1.trans (hb.mono K1.out.1.size)) (block_below K1.out.2 hb (block_lt K1.out.2)))
        have KX2 := Lib.hid (block_below KX1.out hb (block_lt KX1.out))
        have KR2 := Lib.hid ((KR1.out.below hb (Nat.le_refl _)).more hb.size)
        clear hb
        refine hK.out _ _ K2.out (fun _ => ?_)
        clear hK K
        simp only [List.setIfInBounds_toArray, List.set_cons_zero, List.set_cons_succ]
        obtain ⟨zf, r0, r1, r2, r3, r4, r5, r6, r7⟩ := free8 KX2.out
        have hlx := block_lt KX2.out
        have h8 := set8 KX2.out (.int .u8 (dd.x0 : Int)) (.int .u8 (dd.x1 : Int)) (.int .u8 (dd.x2 : Int)) (.int .u8 (dd.x3 : Int)) (.int .u8 (dd.x4 : Int)) (.int .u8 (dd.x5 : Int)) (.int .u8 (dd.x6 : Int)) (.int .u8 (dd.x7 : Int))
        have hg8 := grown_set8 y2 (w.heap.size + 1) (.int .u8 (dd.x0 : Int)) (.int .u8 (dd.x1 : Int)) (.int .u8 (dd.x2 : Int)) (.int .u8 (dd.x3 : Int)) (.int .u8 (dd.x4 : Int)) (.int .u8 (dd.x5 : Int)) (.int .u8 (dd.x6 : Int)) (.int .u8 (dd.x7 : Int))
        have hS5 : Below w.heap.size w ((((((((y2.setCell ⟨w.heap.size + 1, 0, none⟩ (.int .u8 (dd.x0 : Int))).setCell ⟨w.heap.size + 1, 1, none⟩ (.int .u8 (dd.x1 : Int))).setCell ⟨w.heap.size + 1, 2, none⟩ (.int .u8 (dd.x2 : Int))).setCell ⟨w.heap.size + 1, 3, none⟩ (.int .u8 (dd.x3 : Int))).setCell ⟨w.heap.size + 1, 4, none⟩ (.int .u8 (dd.x4 : Int))).setCell ⟨w.heap.size + 1, 5, none⟩ (.int .u8 (dd.x5 : Int))).setCell ⟨w.heap.size + 1, 6, none⟩ (.int .u8 (dd.x6 : Int))).setCell ⟨w.heap.size + 1, 7, none⟩ (.int .u8 (dd.x7 : Int))) ∧ (((((((((y2.setCell ⟨w.heap.size + 1, 0, none⟩ (.int .u8 (dd.x0 : Int))).setCell ⟨w.heap.size + 1, 1, none⟩ (.int .u8 (dd.x1 : Int))).setCell ⟨w.heap.size + 1, 2, none⟩ (.int .u8 (dd.x2 : Int))).setCell ⟨w.heap.size + 1, 3, none⟩ (.int .u8 (dd.x3 : Int))).setCell ⟨w.heap.size + 1, 4, none⟩ (.int .u8 (dd.x4 : Int))).setCell ⟨w.heap.size + 1, 5, none⟩ (.int .u8 (dd.x5 : Int))).setCell ⟨w.heap.size + 1, 6, none⟩ (.int .u8 (dd.x6 : Int))).setCell ⟨w.heap.size + 1, 7, none⟩ (.int .u8 (dd.x7 : Int)))).heap[w.heap.size]? = some (.cells #[.int .u8 (d.x0 : Int), .int .u8 (d.x1 : Int), .int .u8 (d.x2 : Int), .int .u8 (d.x3 : Int), .int .u8 (d.x4 : Int), .int .u8 (d.x5 : Int), .int .u8 (d.x6 : Int), .int .u8 (d.x7 : Int)] 22 (0, 0)) := ⟨K2.out.1.grown hg8 K2.out.1.size (fun k hk => by injection hk with hk; omega), (hg8.block _ (block_lt K2.out.2) (by intro e; injection e with e; omega)).trans K2.out.2⟩
        refine wpAnyH_ready (rs := [8]) (by kernel_rfl) (by simp) ?_
        refine AllReadyH.cons rfl (fun K hK => ?_) AllReadyH.nil
        rw [if_pos (by kernel_rfl)]
        go_simp
        refine hK.out _ _ hS5 (fun _ => ?_)
        clear hK K
        simp only [List.setIfInBounds_toArray, List.set_cons_zero, List.set_cons_succ]
        refine wpAnyH_done (by kernel_rfl) ?_ _
        have Hb5 := Lib.hid hS5.1
        clear hS5 hg8 zf r0 r1 r2 r3 r4 r5 r6 r7 hcv
        generalize ((((((((y2.setCell ⟨w.heap.size + 1, 0, none⟩ (.int .u8 (dd.x0 : Int))).setCell ⟨w.heap.size + 1, 1, none⟩ (.int .u8 (dd.x1 : Int))).setCell ⟨w.heap.size + 1, 2, none⟩ (.int .u8 (dd.x2 : Int))).setCell ⟨w.heap.size + 1, 3, none⟩ (.int .u8 (dd.x3 : Int))).setCell ⟨w.heap.size + 1, 4, none⟩ (.int .u8 (dd.x4 : Int))).setCell ⟨w.heap.size + 1, 5, none⟩ (.int .u8 (dd.x5 : Int))).setCell ⟨w.heap.size + 1, 6, none⟩ (.int .u8 (dd.x6 : Int))).setCell ⟨w.heap.size + 1, 7, none⟩ (.int .u8 (dd.x7 : Int))) = v5 at *
        obtain ⟨zf, r0, r1, r2, r3, r4, r5, r6, r7⟩ := free8 h8
        go_wp2
        refine bodyPost_ret (v := .agg #[.int .u8 (dd.x0 : Int), .int .u8 (dd.x1 : Int), .int .u8 (dd.x2 : Int), .int .u8 (dd.x3 : Int), .int .u8 (dd.x4 : Int), .int .u8 (dd.x5 : Int), .int .u8 (dd.x6 : Int), .int .u8 (dd.x7 : Int)]) (by simp [results, Tryz.results61, go_sem, r0, r1, r2, r3, r4, r5, r6, r7]) rfl ⟨by rw [Hres.out], Hb5.out⟩
    · rw [if_pos (by kernel_rfl)]
      go_simp
      try (rw [hcv v1]; simp only [Result.andThen_ok])
      have hbb := bytesW_below v1 5 s
      have hcap := grownCap_ge v1 s.size 0 5
      have H2 := Lib.hid (And.intro (H1.out.1.trans (hbb.mono H1.out.1.size)) (block_below H1.out.2 hbb (block_lt H1.out.2)))
      have HX2 := Lib.hid (block_below HX1.out hbb (block_lt HX1.out))
      have R2 := Lib.hid (word_rd v1 s)
      generalize bytesWorld v1 5 s = v2 at *
      generalize grownCap v1 s.size 0 5 = cap at *
      clear hbb
      refine hK.out _ _ H2.out (fun _ => ?_)
      clear hK K
      simp only [List.setIfInBounds_toArray, List.set_cons_zero, List.set_cons_succ]
      refine wpAnyH_ready (rs := [2]) (by kernel_rfl) (by simp) ?_
      refine AllReadyH.cons rfl (fun K hK => ?_) AllReadyH.nil
      rw [if_pos (by kernel_rfl)]
      go_simp
      refine (HNM.out _).mono ?_
      rintro e v3 ⟨rfl, hb⟩
      have H3 := Lib.hid (And.intro (H2.out.1.trans (hb.mono H2.out.1.size)) (block_below H2.out.2 hb (block_lt H2.out.2)))
      have HX3 := Lib.hid (block_below HX2.out hb (block_lt HX2.out))
      have R3 := Lib.hid ((R2.out.below hb (Nat.le_refl _)).more hb.size)
      clear hb
      refine hK.out _ _ H3.out (fun _ => ?_)
      clear hK K
      simp only [List.setIfInBounds_toArray, List.set_cons_zero, List.set_cons_succ]
      refine wpAnyH_ready (rs := [3]) (by kernel_rfl) (by simp) ?_
      refine AllReadyH.cons rfl (fun K hK => ?_) AllReadyH.nil
      rw [if_pos (by kernel_rfl)]
      go_simp
      refine (HIN.out _).mono ?_
      rintro e v4 ⟨rfl, hb⟩
      have H4 := Lib.hid (And.intro (H3.out.1.trans (hb.mono H3.out.1.size)) (block_below H3.out.2 hb (block_lt H3.out.2)))
      have HX4 := Lib.hid (block_below HX3.out hb (block_lt HX3.out))
      have R4 := Lib.hid ((R3.out.below hb (Nat.le_refl _)).more hb.size)
      clear hb
      refine hK.out _ _ H4.out (fun _ => ?_)
      clear hK K
      simp only [List.setIfInBounds_toArray, List.set_cons_zero, List.set_cons_succ]
      refine wpAnyH_ready (rs := [6]) (by kernel_rfl) (by simp) ?_
      refine AllReadyH.cons rfl (fun K hK => ?_) AllReadyH.nil
      rw [if_pos (by kernel_rfl)]
      go_simp
      refine (HBT.out _ _ _ hcap R4.out).mono ?_
      rintro e y1 ⟨rfl, hb⟩
      have K1 := Lib.hid (And.intro (H4.out.1.trans (hb.mono H4.out.1.size)) (block_below H4.out.2 hb (block_lt H4.out.2)))
      have KX1 := Lib.hid (block_below HX4.out hb (block_lt HX4.out))
      have KR1 := Lib.hid ((R4.out.below hb (Nat.le_refl _)).more hb.size)
      clear hb
      refine hK.out _ _ K1.out (fun _ => ?_)
      clear hK K
      simp only [List.setIfInBounds_toArray, List.set_cons_zero, List.set_cons_succ]
      refine wpAnyH_ready (rs := [7]) (by kernel_rfl) (by simp) ?_
      refine AllReadyH.cons rfl (fun K hK => ?_) AllReadyH.nil
      rw [if_pos (by kernel_rfl)]
      go_simp
      refine (HOU.out _).mono ?_
      rintro e y2 ⟨rfl, hb⟩
      have K2 := Lib.hid (And.intro (K1.out.1.trans (hb.mono K1.out.1.size)) (block_below K1.out.2 hb (block_lt K1.out.2)))
      have KX2 := Lib.hid (block_below KX1.out hb (block_lt KX1.out))
      have KR2 := Lib.hid ((KR1.out.below hb (Nat.le_refl _)).more hb.size)
      clear hb
      refine hK.out _ _ K2.out (fun _ => ?_)
      clear hK K
      simp only [List.setIfInBounds_toArray, List.set_cons_zero, List.set_cons_succ]
      obtain ⟨zf, r0, r1, r2, r3, r4, r5, r6, r7⟩ := free8 KX2.out
      have hlx := block_lt KX2.out
      have h8 := set8 KX2.out (.int .u8 (dd.x0 : Int)) (.int .u8 (dd.x1 : Int)) (.int .u8 (dd.x2 : Int)) (.int .u8 (dd.x3 : Int)) (.int .u8 (dd.x4 : Int)) (.int .u8 (dd.x5 : Int)) (.int .u8 (dd.x6 : Int)) (.int .u8 (dd.x7 : Int))
      have hg8 := grown_set8 y2 (w.heap.size + 1) (.int .u8 (dd.x0 : Int)) (.int .u8 (dd.x1 : Int)) (.int .u8 (dd.x2 : Int)) (.int .u8 (dd.x3 : Int)) (.int .u8 (dd.x4 : Int)) (.int .u8 (dd.x5 : Int)) (.int .u8 (dd.x6 : Int)) (.int .u8 (dd.x7 : Int))
      have hS5 : Below w.heap.size w ((((((((y2.setCell ⟨w.heap.size + 1, 0, none⟩ (.int .u8 (dd.x0 : Int))).setCell ⟨w.heap.size + 1, 1, none⟩ (.int .u8 (dd.x1 : Int))).setCell ⟨w.heap.size + 1, 2, none⟩ (.int .u8 (dd.x2 : Int))).setCell ⟨w.heap.size + 1, 3, none⟩ (.int .u8 (dd.x3 : Int))).setCell ⟨w.heap.size + 1, 4, none⟩ (.int .u8 (dd.x4 : Int))).setCell ⟨w.heap.size + 1, 5, none⟩ (.int .u8 (dd.x5 : Int))).setCell ⟨w.heap.size + 1, 6, none⟩ (.int .u8 (dd.x6 : Int))).setCell ⟨w.heap.size + 1, 7, none⟩ (.int .u8 (dd.x7 : Int))) ∧ (((((((((y2.setCell ⟨w.heap.size + 1, 0, none⟩ (.int .u8 (dd.x0 : Int))).setCell ⟨w.heap.size + 1, 1, none⟩ (.int .u8 (dd.x1 : Int))).setCell ⟨w.heap.size + 1, 2, none⟩ (.int .u8 (dd.x2 : Int))).setCell ⟨w.heap.size + 1, 3, none⟩ (.int .u8 (dd.x3 : Int))).setCell ⟨w.heap.size + 1, 4, none⟩ (.int .u8 (dd.x4 : Int))).setCell ⟨w.heap.size + 1, 5, none⟩ (.int .u8 (dd.x5 : Int))).setCell ⟨w.heap.size + 1, 6, none⟩ (.int .u8 (dd.x6 : Int))).setCell ⟨w.heap.size + 1, 7, none⟩ (.int .u8 (dd.x7 : Int)))).heap[w.heap.size]? = some (.cells #[.int .u8 (d.x0 : Int), .int .u8 (d.x1 : Int), .int .u8 (d.x2 : Int), .int .u8 (d.x3 : Int), .int .u8 (d.x4 : Int), .int .u8 (d.x5 : Int), .int .u8 (d.x6 : Int), .int .u8 (d.x7 : Int)] 22 (0, 0)) := ⟨K2.out.1.grown hg8 K2.out.1.size (fun k hk => by injection hk with hk; omega), (hg8.block _ (block_lt K2.out.2) (by intro e; injection e with e; omega)).trans K2.out.2⟩
      refine wpAnyH_ready (rs := [8]) (by kernel_rfl) (by simp) ?_
      refine AllReadyH.cons rfl (fun K hK => ?_) AllReadyH.nil
      rw [if_pos (by kernel_rfl)]
      go_simp
      refine hK.out _ _ hS5 (fun _ => ?_)
      clear hK K
      simp only [List.setIfInBounds_toArray, List.set_cons_zero, List.set_cons_succ]
      refine wpAnyH_done (by kernel_rfl) ?_ _
      have Hb5 := Lib.hid hS5.1
      clear hS5 hg8 zf r0 r1 r2 r3 r4 r5 r6 r7 hcv
      generalize ((((((((y2.setCell ⟨w.heap.size + 1, 0, none⟩ (.int .u8 (dd.x0 : Int))).setCell ⟨w.heap.size + 1, 1, none⟩ (.int .u8 (dd.x1 : Int))).setCell ⟨w.heap.size + 1, 2, none⟩ (.int .u8 (dd.x2 : Int))).setCell ⟨w.heap.size + 1, 3, none⟩ (.int .u8 (dd.x3 : Int))).setCell ⟨w.heap.size + 1, 4, none⟩ (.int .u8 (dd.x4 : Int))).setCell ⟨w.heap.size + 1, 5, none⟩ (.int .u8 (dd.x5 : Int))).setCell ⟨w.heap.size + 1, 6, none⟩ (.int .u8 (dd.x6 : Int))).setCell ⟨w.heap.size + 1, 7, none⟩ (.int .u8 (dd.x7 : Int))) = v5 at *
      obtain ⟨zf, r0, r1, r2, r3, r4, r5, r6, r7⟩ := free8 h8
      go_wp2
      refine bodyPost_ret (v := .agg #[.int .u8 (dd.x0 : Int), .int .u8 (dd.x1 : Int), .int .u8 (dd.x2 : Int), .int .u8 (dd.x3 : Int), .int .u8 (dd.x4 : Int), .int .u8 (dd.x5 : Int), .int .u8 (dd.x6 : Int), .int .u8 (dd.x7 : Int)]) (by simp [results, Tryz.results61, go_sem, r0, r1, r2, r3, r4, r5, r6, r7]) rfl ⟨by rw [Hres.out], Hb5.out⟩
  · rw [if_pos (by kernel_rfl)]
    go_simp
    try (rw [hcv u0]; simp only [Result.andThen_ok])
    have hbb := bytesW_below u0 5 s
    have hcap := grownCap_ge u0 s.size 0 5
    have H1 := Lib.hid (And.intro (Hd0.out.1.trans (hbb.mono Hd0.out.1.size)) (block_below Hd0.out.2 hbb (block_lt Hd0.out.2)))
    have HX1 := Lib.hid (block_below HXd0.out hbb (block_lt HXd0.out))
    have R1 := Lib.hid (word_rd u0 s)
    generalize bytesWorld u0 5 s = v1 at *
    generalize grownCap u0 s.size 0 5 = cap at *
    clear hbb
    refine hK.out _ _ H1.out (fun _ => ?_)
    clear hK K
    simp only [List.setIfInBounds_toArray, List.set_cons_zero, List.set_cons_succ]
    refine wpAnyH_ready (rs := [0]) (by kernel_rfl) (by simp) ?_
    refine AllReadyH.cons rfl (fun K hK => ?_) AllReadyH.nil
    rw [if_pos (by kernel_rfl)]
    go_simp
    refine (HBG.out _).mono ?_
    rintro e v2 ⟨rfl, hb⟩
    have H2 := Lib.hid (And.intro (H1.out.1.trans (hb.mono H1.out.1.size)) (block_below H1.out.2 hb (block_lt H1.out.2)))
    have HX2 := Lib.hid (block_below HX1.out hb (block_lt HX1.out))
    have R2 := Lib.hid ((R1.out.below hb (Nat.le_refl _)).more hb.size)
    clear hb
    refine hK.out _ _ H2.out (fun _ => ?_)
    clear hK K
    simp only [List.setIfInBounds_toArray, List.set_cons_zero]
    refine wpAnyH_ready (rs := [2]) (by kernel_rfl) (by simp) ?_
    refine AllReadyH.cons rfl (fun K hK => ?_) AllReadyH.nil
    rw [if_pos (by kernel_rfl)]
    go_simp
    refine (HNM.out _).mono ?_
    rintro e v3 ⟨rfl, hb⟩
    have H3 := Lib.hid (And.intro (H2.out.1.trans (hb.mono H2.out.1.size)) (block_below H2.out.2 hb (block_lt H2.out.2)))
    have HX3 := Lib.hid (block_below HX2.out hb (block_lt HX2.out))
    have R3 := Lib.hid ((R2.out.below hb (Nat.le_refl _)).more hb.size)
    clear hb
    refine hK.out _ _ H3.out (fun _ => ?_)
    clear hK K
    simp only [List.setIfInBounds_toArray, List.set_cons_zero, List.set_cons_succ]
    refine wpAnyH_ready (rs := [3]) (by kernel_rfl) (by simp) ?_
    refine AllReadyH.cons rfl (fun K hK => ?_) AllReadyH.nil
    rw [if_pos (by kernel_rfl)]
    go_simp
    refine (HIN.out _).mono ?_
    rintro e v4 ⟨rfl, hb⟩
    have H4 := Lib.hid (And.intro (H3.out.1.trans (hb.mono H3.out.1.size)) (block_below H3.out.2 hb (block_lt H3.out.2)))
    have HX4 := Lib.hid (block_below HX3.out hb (block_lt HX3.out))
    have R4 := Lib.hid ((R3.out.below hb (Nat.le_refl _)).more hb.size)
    clear hb
    refine hK.out _ _ H4.out (fun _ => ?_)
    clear hK K
    simp only [List.setIfInBounds_toArray, List.set_cons_zero, List.set_cons_succ]
    refine wpAnyH_ready (rs := [6]) (by kernel_rfl) (by simp) ?_
    refine AllReadyH.cons rfl (fun K hK => ?_) AllReadyH.nil
    rw [if_pos (by kernel_rfl)]
    go_simp
    refine (HBT.out _ _ _ hcap R4.out).mono ?_
    rintro e y1 ⟨rfl, hb⟩
    have K1 := Lib.hid (And.intro (H4.out.1.trans (hb.mono H4.out.1.size)) (block_below H4.out.2 hb (block_lt H4.out.2)))
    have KX1 := Lib.hid (block_below HX4.out hb (block_lt HX4.out))
    have KR1 := Lib.hid ((R4.out.below hb (Nat.le_refl _)).more hb.size)
    clear hb
    refine hK.out _ _ K1.out (fun _ => ?_)
    clear hK K
    simp only [List.setIfInBounds_toArray, List.set_cons_zero, List.set_cons_succ]
    refine wpAnyH_ready (rs := [7]) (by kernel_rfl) (by simp) ?_
    refine AllReadyH.cons rfl (fun K hK => ?_) AllReadyH.nil
    rw [if_pos (by kernel_rfl)]
    go_simp
    refine (HOU.out _).mono ?_
    rintro e y2 ⟨rfl, hb⟩
    have K2 := Lib.hid (And.intro (K1.out.1.trans (hb.mono K1.out.1.size)) (block_below K1.out.2 hb (block_lt K1.out.2)))
    have KX2 := Lib.hid (block_below KX1.out hb (block_lt KX1.out))
    have KR2 := Lib.hid ((KR1.out.below hb (Nat.le_refl _)).more hb.size)
    clear hb
    refine hK.out _ _ K2.out (fun _ => ?_)
    clear hK K
    simp only [List.setIfInBounds_toArray, List.set_cons_zero, List.set_cons_succ]
    obtain ⟨zf, r0, r1, r2, r3, r4, r5, r6, r7⟩ := free8 KX2.out
    have hlx := block_lt KX2.out
    have h8 := set8 KX2.out (.int .u8 (dd.x0 : Int)) (.int .u8 (dd.x1 : Int)) (.int .u8 (dd.x2 : Int)) (.int .u8 (dd.x3 : Int)) (.int .u8 (dd.x4 : Int)) (.int .u8 (dd.x5 : Int)) (.int .u8 (dd.x6 : Int)) (.int .u8 (dd.x7 : Int))
    have hg8 := grown_set8 y2 (w.heap.size + 1) (.int .u8 (dd.x0 : Int)) (.int .u8 (dd.x1 : Int)) (.int .u8 (dd.x2 : Int)) (.int .u8 (dd.x3 : Int)) (.int .u8 (dd.x4 : Int)) (.int .u8 (dd.x5 : Int)) (.int .u8 (dd.x6 : Int)) (.int .u8 (dd.x7 : Int))
    have hS5 : Below w.heap.size w ((((((((y2.setCell ⟨w.heap.size + 1, 0, none⟩ (.int .u8 (dd.x0 : Int))).setCell ⟨w.heap.size + 1, 1, none⟩ (.int .u8 (dd.x1 : Int))).setCell ⟨w.heap.size + 1, 2, none⟩ (.int .u8 (dd.x2 : Int))).setCell ⟨w.heap.size + 1, 3, none⟩ (.int .u8 (dd.x3 : Int))).setCell ⟨w.heap.size + 1, 4, none⟩ (.int .u8 (dd.x4 : Int))).setCell ⟨w.heap.size + 1, 5, none⟩ (.int .u8 (dd.x5 : Int))).setCell ⟨w.heap.size + 1, 6, none⟩ (.int .u8 (dd.x6 : Int))).setCell ⟨w.heap.size + 1, 7, none⟩ (.int .u8 (dd.x7 : Int))) ∧ (((((((((y2.setCell ⟨w.heap.size + 1, 0, none⟩ (.int .u8 (dd.x0 : Int))).setCell ⟨w.heap.size + 1, 1, none⟩ (.int .u8 (dd.x1 : Int))).setCell ⟨w.heap.size + 1, 2, none⟩ (.int .u8 (dd.x2 : Int))).setCell ⟨w.heap.size + 1, 3, none⟩ (.int .u8 (dd.x3 : Int))).setCell ⟨w.heap.size + 1, 4, none⟩ (.int .u8 (dd.x4 : Int))).setCell ⟨w.heap.size + 1, 5, none⟩ (.int .u8 (dd.x5 : Int))).setCell ⟨w.heap.size + 1, 6, none⟩ (.int .u8 (dd.x6 : Int))).setCell ⟨w.heap.size + 1, 7, none⟩ (.int .u8 (dd.x7 : Int)))).heap[w.heap.size]? = some (.cells #[.int .u8 (d.x0 : Int), .int .u8 (d.x1 : Int), .int .u8 (d.x2 : Int), .int .u8 (d.x3 : Int), .int .u8 (d.x4 : Int), .int .u8 (d.x5 : Int), .int .u8 (d.x6 : Int), .int .u8 (d.x7 : Int)] 22 (0, 0)) := ⟨K2.out.1.grown hg8 K2.out.1.size (fun k hk => by injection hk with hk; omega), (hg8.block _ (block_lt K2.out.2) (by intro e; injection e with e; omega)).trans K2.out.2⟩
    refine wpAnyH_ready (rs := [8]) (by kernel_rfl) (by simp) ?_
    refine AllReadyH.cons rfl (fun K hK => ?_) AllReadyH.nil
    rw [if_pos (by kernel_rfl)]
    go_simp
    refine hK.out _ _ hS5 (fun _ => ?_)
    clear hK K
    simp only [List.setIfInBounds_toArray, List.set_cons_zero, List.set_cons_succ]
    refine wpAnyH_done (by kernel_rfl) ?_ _
    have Hb5 := Lib.hid hS5.1
    clear hS5 hg8 zf r0 r1 r2 r3 r4 r5 r6 r7 hcv
    generalize ((((((((y2.setCell ⟨w.heap.size + 1, 0, none⟩ (.int .u8 (dd.x0 : Int))).setCell ⟨w.heap.size + 1, 1, none⟩ (.int .u8 (dd.x1 : Int))).setCell ⟨w.heap.size + 1, 2, none⟩ (.int .u8 (dd.x2 : Int))).setCell ⟨w.heap.size + 1, 3, none⟩ (.int .u8 (dd.x3 : Int))).setCell ⟨w.heap.size + 1, 4, none⟩ (.int .u8 (dd.x4 : Int))).setCell ⟨w.heap.size + 1, 5, none⟩ (.int .u8 (dd.x5 : Int))).setCell ⟨w.heap.size + 1, 6, none⟩ (.int .u8 (dd.x6 : Int))).setCell ⟨w.heap.size + 1, 7, none⟩ (.int .u8 (dd.x7 : Int))) = v5 at *
    obtain ⟨zf, r0, r1, r2, r3, r4, r5, r6, r7⟩ := free8 h8
    go_wp2
    refine bodyPost_ret (v := .agg #[.int .u8 (dd.x0 : Int), .int .u8 (dd.x1 : Int), .int .u8 (dd.x2 : Int), .int .u8 (dd.x3 : Int), .int .u8 (dd.x4 : Int), .int .u8 (dd.x5 : Int), .int .u8 (dd.x6 : Int), .int .u8 (dd.x7 : Int)]) (by simp [results, Tryz.results61, go_sem, r0, r1, r2, r3, r4, r5, r6, r7]) rfl ⟨by rw [Hres.out], Hb5.out⟩
end Go.Proofs.YtmpklplojfjfbaaGreatDoor
namespace Go.Proofs.YtmpklplojfjfbaaGreatDoor
open Go.RowKit Go.Lib





set_option maxRecDepth 100000 in
set_option maxHeartbeats 2000000 in
theorem rchain_any (d : D8) (n : Nat) (w : World) (hd : d.ok) (hn : n ≤ 1048576) :
    Calls Tryz.prog 58 #[.agg #[.int .u8 (d.x0 : Int), .int .u8 (d.x1 : Int), .int .u8 (d.x2 : Int), .int .u8 (d.x3 : Int), .int .u8 (d.x4 : Int), .int .u8 (d.x5 : Int), .int .u8 (d.x6 : Int), .int .u8 (d.x7 : Int)], .int .i64 (n : Int)] w fun e w' => e = .returned (.agg #[.int .u8 ((chainD d n).x0 : Int), .int .u8 ((chainD d n).x1 : Int), .int .u8 ((chainD d n).x2 : Int), .int .u8 ((chainD d n).x3 : Int), .int .u8 ((chainD d n).x4 : Int), .int .u8 ((chainD d n).x5 : Int), .int .u8 ((chainD d n).x6 : Int), .int .u8 ((chainD d n).x7 : Int)]) ∧ Below w.heap.size w w' := by
  obtain ⟨hd0, hx0, hw0, hz0⟩ := alloc2 w (.cells #[.int .u8 (d.x0 : Int), .int .u8 (d.x1 : Int), .int .u8 (d.x2 : Int), .int .u8 (d.x3 : Int), .int .u8 (d.x4 : Int), .int .u8 (d.x5 : Int), .int .u8 (d.x6 : Int), .int .u8 (d.x7 : Int)] 22) (.cells #[.int .u8 0, .int .u8 0, .int .u8 0, .int .u8 0, .int .u8 0, .int .u8 0, .int .u8 0, .int .u8 0] 22)
  have Hd := Lib.hid hd
  have e2 : decide ((1048576 : Int) < (n : Int)) = false := decide_eq_false (by omega)
  have H0 := Lib.hid hd0; have HX0 := Lib.hid hx0; have Hw0 := Lib.hid hw0; have Hz0 := Lib.hid hz0
  clear hd0 hx0 hw0 hz0 hd
  go_enter Tryz.func58, Tryz.ntmps58
  go_wp2
  go_loopw [5] (fun i wr => ∃ k : Nat, k ≤ n ∧ i = .int .i64 (k : Int) ∧ wr.heap[w.heap.size]? = some (.cells #[.int .u8 ((chainD d k).x0 : Int), .int .u8 ((chainD d k).x1 : Int), .int .u8 ((chainD d k).x2 : Int), .int .u8 ((chainD d k).x3 : Int), .int .u8 ((chainD d k).x4 : Int), .int .u8 ((chainD d k).x5 : Int), .int .u8 ((chainD d k).x6 : Int), .int .u8 ((chainD d k).x7 : Int)] 22 (0, 0)) ∧ wr.heap[w.heap.size + 1]? = some (.cells #[.int .u8 0, .int .u8 0, .int .u8 0, .int .u8 0, .int .u8 0, .int .u8 0, .int .u8 0, .int .u8 0] 22 (0, 0)) ∧ Below w.heap.size w wr) (fun i _ => n - (RowKit.intOf i).toNat)
  case atStart => exact ⟨0, by omega, rfl, H0.out, HX0.out, Hw0.out⟩
  case round =>
    obtain ⟨k, hk, rfl, hT, hX, hb⟩ := hrel
    have HT := Lib.hid hT; have HX := Lib.hid hX; have Hb := Lib.hid hb
    have hlX := block_lt hX
    obtain ⟨zf, q0, q1, q2, q3, q4, q5, q6, q7⟩ := free8 hT
    clear hT hX hb
    by_cases hlt : k < n
    · have hd1 : decide ((k : Int) < (n : Int)) = true := decide_eq_true (by omega)
      have Hr : Hid (chainD d (k + 1) = hashOne (chainD d k)) := Lib.hid rfl
      have Hq := Lib.hid (chainD_ok Hd.out k)
      have Hk := Lib.hid hlt
      generalize chainD d k = q at *
      clear zf
      go_wp2_with fail
      refine (rone_any q wr Hq.out).mono ?_
      rintro e w1 ⟨rfl, hb1⟩
      have HT1 := Lib.hid (block_below HT.out hb1 (by omega)); have HX2 := Lib.hid (block_below HX.out hb1 hlX); have Hb1 := Lib.hid (Hb.out.trans (hb1.mono Hb.out.size))
      clear hb1 HT HX Hb q0 q1 q2 q3 q4 q5 q6 q7
      rw [← Hr.out]
      generalize hp : chainD d (k + 1) = p at *
      have Hp := Lib.hid hp
      clear hp
      obtain ⟨zf, r0, r1, r2, r3, r4, r5, r6, r7⟩ := free8 HT1.out
      go_wp2
      have h8 := set8 HT1.out (.int .u8 (p.x0 : Int)) (.int .u8 (p.x1 : Int)) (.int .u8 (p.x2 : Int)) (.int .u8 (p.x3 : Int)) (.int .u8 (p.x4 : Int)) (.int .u8 (p.x5 : Int)) (.int .u8 (p.x6 : Int)) (.int .u8 (p.x7 : Int))
      have hg8 := grown_set8 w1 w.heap.size (.int .u8 (p.x0 : Int)) (.int .u8 (p.x1 : Int)) (.int .u8 (p.x2 : Int)) (.int .u8 (p.x3 : Int)) (.int .u8 (p.x4 : Int)) (.int .u8 (p.x5 : Int)) (.int .u8 (p.x6 : Int)) (.int .u8 (p.x7 : Int))
      have hb2 := Hb1.out.grown hg8 Hb1.out.size (fun k hk => by injection hk with hk; omega)
      have hx2 := (hg8.block (w.heap.size + 1) (block_lt HX2.out) (by intro e; injection e with e; omega)).trans HX2.out
      go_roundw
      case rel => exact ⟨k + 1, Hk.out, by go_num, by rw [Hp.out]; exact h8, hx2, hb2⟩
      case measure => have := Hk.out; simp [RowKit.intOf]; omega
    · obtain rfl : k = n := by omega
      have hd1 : decide ((k : Int) < (k : Int)) = false := by simp
      have Hbx := Lib.hid HX.out; have Hbw := Lib.hid Hb.out
      clear hlt hk zf e2
      obtain ⟨zf, r0, r1, r2, r3, r4, r5, r6, r7⟩ := free8 Hbx.out
      generalize hq : chainD d k = q at *
      have Hq := Lib.hid hq
      clear hq
      go_wp2
      clear zf r0 r1 r2 r3 r4 r5 r6 r7
      have h8 := set8 Hbx.out (.int .u8 (q.x0 : Int)) (.int .u8 (q.x1 : Int)) (.int .u8 (q.x2 : Int)) (.int .u8 (q.x3 : Int)) (.int .u8 (q.x4 : Int)) (.int .u8 (q.x5 : Int)) (.int .u8 (q.x6 : Int)) (.int .u8 (q.x7 : Int))
      have hg8 := grown_set8 wr (w.heap.size + 1) (.int .u8 (q.x0 : Int)) (.int .u8 (q.x1 : Int)) (.int .u8 (q.x2 : Int)) (.int .u8 (q.x3 : Int)) (.int .u8 (q.x4 : Int)) (.int .u8 (q.x5 : Int)) (.int .u8 (q.x6 : Int)) (.int .u8 (q.x7 : Int))
      generalize ((((((((wr.setCell ⟨w.heap.size + 1, 0, none⟩ (.int .u8 (q.x0 : Int))).setCell ⟨w.heap.size + 1, 1, none⟩ (.int .u8 (q.x1 : Int))).setCell ⟨w.heap.size + 1, 2, none⟩ (.int .u8 (q.x2 : Int))).setCell ⟨w.heap.size + 1, 3, none⟩ (.int .u8 (q.x3 : Int))).setCell ⟨w.heap.size + 1, 4, none⟩ (.int .u8 (q.x4 : Int))).setCell ⟨w.heap.size + 1, 5, none⟩ (.int .u8 (q.x5 : Int))).setCell ⟨w.heap.size + 1, 6, none⟩ (.int .u8 (q.x6 : Int))).setCell ⟨w.heap.size + 1, 7, none⟩ (.int .u8 (q.x7 : Int))) = w10 at *
      obtain ⟨zf, r0, r1, r2, r3, r4, r5, r6, r7⟩ := free8 h8
      have Hb2 := Lib.hid (Hbw.out.grown hg8 Hbw.out.size (fun k hk => by injection hk with hk; omega))
      clear h8 hg8
      refine bodyPost_ret (v := .agg #[.int .u8 (q.x0 : Int), .int .u8 (q.x1 : Int), .int .u8 (q.x2 : Int), .int .u8 (q.x3 : Int), .int .u8 (q.x4 : Int), .int .u8 (q.x5 : Int), .int .u8 (q.x6 : Int), .int .u8 (q.x7 : Int)]) (by simp [results, Tryz.results58, go_sem, r0, r1, r2, r3, r4, r5, r6, r7]) rfl ⟨by rw [Hq.out], Hb2.out⟩
theorem load_rowS {w : World} {b o : Nat} {d : D8} (_hl : b < w.heap.size) (x0 : w.cell? ⟨b, o, none⟩ = some (.int .u8 (d.x0 : Int))) (x1 : w.cell? ⟨b, o + 1, none⟩ = some (.int .u8 (d.x1 : Int))) (x2 : w.cell? ⟨b, o + 2, none⟩ = some (.int .u8 (d.x2 : Int))) (x3 : w.cell? ⟨b, o + 3, none⟩ = some (.int .u8 (d.x3 : Int))) (x4 : w.cell? ⟨b, o + 4, none⟩ = some (.int .u8 (d.x4 : Int))) (x5 : w.cell? ⟨b, o + 5, none⟩ = some (.int .u8 (d.x5 : Int))) (x6 : w.cell? ⟨b, o + 6, none⟩ = some (.int .u8 (d.x6 : Int))) (x7 : w.cell? ⟨b, o + 7, none⟩ = some (.int .u8 (d.x7 : Int))) : (Instr.loadAt 22 (.pointer (some ⟨b, o, none⟩))).run Tryz.prog w = .ok (.agg #[.int .u8 (d.x0 : Int), .int .u8 (d.x1 : Int), .int .u8 (d.x2 : Int), .int .u8 (d.x3 : Int), .int .u8 (d.x4 : Int), .int .u8 (d.x5 : Int), .int .u8 (d.x6 : Int), .int .u8 (d.x7 : Int)]) w := by
  go_simp
set_option maxRecDepth 100000 in
set_option maxHeartbeats 4000000 in
theorem rmany_any (A : Option Addr) (n c : Nat) (l : List D8) (w : World) (h : Rd w w.heap.size 8 A n (flatD l)) (hok : ∀ d ∈ l, d.ok) (hn : n ≤ 1000000) :
    Calls Tryz.prog 77 #[.slice A n c] w fun e w' => e = .returned (.agg #[.int .u8 ((hashMany l).x0 : Int), .int .u8 ((hashMany l).x1 : Int), .int .u8 ((hashMany l).x2 : Int), .int .u8 ((hashMany l).x3 : Int), .int .u8 ((hashMany l).x4 : Int), .int .u8 ((hashMany l).x5 : Int), .int .u8 ((hashMany l).x6 : Int), .int .u8 ((hashMany l).x7 : Int)]) ∧ Below w.heap.size w w' := by
  have HX0 : Hid ((w.alloc (.cells #[.int .u8 0, .int .u8 0, .int .u8 0, .int .u8 0, .int .u8 0, .int .u8 0, .int .u8 0, .int .u8 0] 22)).heap[w.heap.size]? = some (.cells #[.int .u8 0, .int .u8 0, .int .u8 0, .int .u8 0, .int .u8 0, .int .u8 0, .int .u8 0, .int .u8 0] 22 (0, 0))) := heap_alloc_new w _
  have Hw0 := Lib.hid (h_one w (.cells #[.int .u8 0, .int .u8 0, .int .u8 0, .int .u8 0, .int .u8 0, .int .u8 0, .int .u8 0, .int .u8 0] 22))
  have Hl := Lib.hid h.dlenD
  have HR := Lib.hid h; have Hok := Lib.hid hok
  clear h hok
  go_enter Tryz.func77, Tryz.ntmps77
  go_upto_region 1 with fail
  generalize w.alloc (.cells #[.int .u8 0, .int .u8 0, .int .u8 0, .int .u8 0, .int .u8 0, .int .u8 0, .int .u8 0, .int .u8 0] 22) = v0 at *
  go_wp2_with fail
  refine (beginr_any 5 v0).mono ?_
  rintro e w1 ⟨rfl, hb1⟩
  have HX1 := Lib.hid (block_below HX0.out hb1 (block_lt HX0.out))
  have Hw1 := Lib.hid (Hw0.out.trans (hb1.mono Hw0.out.size))
  have hsz1 : w.heap.size < w1.heap.size := block_lt HX1.out
  clear hb1 HX0 Hw0
  obtain ⟨s0, hs0⟩ : ∃ s0, s0 = Hs.begin 5 := ⟨_, rfl⟩
  rw [← hs0]
  have Hs0 := Lib.hid hs0
  clear hs0
  go_upto_region 2 with fail
  have H2 : Hid ((w1.alloc (.cells #[.int .u64 s0.a, .int .u64 s0.b, .int .u64 s0.c, .int .u64 s0.d] 150)).heap[w1.heap.size]? = some (.cells #[.int .u64 s0.a, .int .u64 s0.b, .int .u64 s0.c, .int .u64 s0.d] 150 (0, 0))) := heap_alloc_new w1 _
  have HX2 := Lib.hid (block_alloc HX1.out (.cells #[.int .u64 s0.a, .int .u64 s0.b, .int .u64 s0.c, .int .u64 s0.d] 150)); have Hw2 := Lib.hid (Hw1.out.alloc Hw1.out.size (.cells #[.int .u64 s0.a, .int .u64 s0.b, .int .u64 s0.c, .int .u64 s0.d] 150))
  generalize w1.alloc (.cells #[.int .u64 s0.a, .int .u64 s0.b, .int .u64 s0.c, .int .u64 s0.d] 150) = w2 at *
  generalize w1.heap.size = g at *
  clear HX1 Hw1
  go_wp2
  go_loopw [4] (fun i wr => ∃ k : Nat, k ≤ n ∧ i = .int .i64 (k : Int) ∧ wr.heap[g]? = some (.cells #[.int .u64 (s0.takeAll (l.take k)).a, .int .u64 (s0.takeAll (l.take k)).b, .int .u64 (s0.takeAll (l.take k)).c, .int .u64 (s0.takeAll (l.take k)).d] 150 (0, 0)) ∧ wr.heap[w.heap.size]? = some (.cells #[.int .u8 0, .int .u8 0, .int .u8 0, .int .u8 0, .int .u8 0, .int .u8 0, .int .u8 0, .int .u8 0] 22 (0, 0)) ∧ Below w.heap.size w wr) (fun i _ => n - (RowKit.intOf i).toNat)
  case atStart => exact ⟨0, by omega, rfl, by simpa [Hs.takeAll] using H2.out, HX2.out, Hw2.out⟩
  case round =>
    obtain ⟨k, hk, rfl, hS, hX, hb⟩ := hrel
    have HS := Lib.hid hS; have HX := Lib.hid hX; have Hb := Lib.hid hb
    have hlS := block_lt hS
    clear hS hX hb H2 HX2 Hw2
    by_cases hlt : k < n
    · have hd1 : decide ((k : Int) < (n : Int)) = true := decide_eq_true (by omega)
      have hki : (k : Int) < (n : Int) := by omega
      obtain ⟨b, o, rfl, hbB, hrow⟩ : ∃ b o, A = some ⟨b, o, none⟩ ∧ b < w.heap.size ∧ ∀ w', Below w.heap.size w w' → (Instr.loadAt 22 (.pointer (some ⟨b, o + k * 8, none⟩))).run Tryz.prog w' = .ok (.agg #[.int .u8 ((l.getD k D8.zero).x0 : Int), .int .u8 ((l.getD k D8.zero).x1 : Int), .int .u8 ((l.getD k D8.zero).x2 : Int), .int .u8 ((l.getD k D8.zero).x3 : Int), .int .u8 ((l.getD k D8.zero).x4 : Int), .int .u8 ((l.getD k D8.zero).x5 : Int), .int .u8 ((l.getD k D8.zero).x6 : Int), .int .u8 ((l.getD k D8.zero).x7 : Int)]) w' := by
        obtain ⟨b, o, hA, hbB, _⟩ := HR.out.di8 hlt
        refine ⟨b, o, hA, hbB, fun w' hw' => ?_⟩
        obtain ⟨b', o', hA', hbB', x0, x1, x2, x3, x4, x5, x6, x7⟩ := (HR.out.below hw' (Nat.le_refl _)).di8 hlt
        rw [hA] at hA'
        injection hA' with e1
        injection e1 with e2 e3
        subst e2; subst e3
        exact load_rowS (Nat.lt_of_lt_of_le hbB hw'.size) x0 x1 x2 x3 x4 x5 x6 x7
      have Hr := Lib.hid (takeAll_snoc s0 l (k := k) (by rw [Hl.out]; exact hlt))
      have Hq := Lib.hid (getD_ok Hok.out k)
      have Hk := Lib.hid hlt
      generalize l.getD k D8.zero = q at *
      generalize s0.takeAll (l.take k) = st at *
      obtain ⟨s2, hs2⟩ : ∃ s2, s2 = st.take (q.num : Int) := ⟨_, rfl⟩
      have HNM := Lib.hid (fun u => rnum_any q u Hq.out); have HIN := Lib.hid (fun u => in_any st (q.num : Int) u)
      rw [← hs2] at HIN Hr
      clear hs2
      have hbd : Below w.heap.size w wr.drew := Hb.out.drew
      have Hbd := Lib.hid hbd
      have HSd : Hid (wr.drew.heap[g]? = some (.cells #[.int .u64 st.a, .int .u64 st.b, .int .u64 st.c, .int .u64 st.d] 150 (0, 0))) := HS
      have HXd : Hid (wr.drew.heap[w.heap.size]? = some (.cells #[.int .u8 0, .int .u8 0, .int .u8 0, .int .u8 0, .int .u8 0, .int .u8 0, .int .u8 0, .int .u8 0] 22 (0, 0))) := HX
      go_upto_region 5 with fail
      refine wp_region_held_drew (S := fun w' => Below w.heap.size w w') (by kernel_rfl) hbd (fun hHeld => ?_)
      rw [show Array.replicate _ false = (#[false, false, false, false, false, false, false, false] : Array Bool) from rfl]
      refine takeH 1 (some 13) (v := ?_) rfl (by kernel_rfl) (by kernel_rfl) (by kernel_rfl) (by kernel_rfl) (fun _ _ _ h => h) (Or.inl ⟨by kernel_rfl, ?hy⟩) (by assumption) ?_
      case hy =>
        intro w' hSw
        clear hSw
        first
          | (go_simp; done)
          | (go_simp; with_reducible rfl)
      simp only [Act.put, List.setIfInBounds_toArray, List.set_cons_zero, List.set_cons_succ]
      refine takeH 2 (some 14) (v := ?_) rfl (by kernel_rfl) (by kernel_rfl) (by kernel_rfl) (by kernel_rfl) (fun _ _ _ h => h) (Or.inl ⟨by kernel_rfl, ?hy⟩) (by assumption) ?_
      case hy =>
        intro w' hSw
        clear hSw
        first
          | (go_simp; done)
          | (go_simp; with_reducible rfl)
      simp only [Act.put, List.setIfInBounds_toArray, List.set_cons_zero, List.set_cons_succ]
      refine takeH 3 (some 15) (v := ?_) rfl (by kernel_rfl) (by kernel_rfl) (by kernel_rfl) (by kernel_rfl) (fun _ _ _ h => h) (Or.inl ⟨by kernel_rfl, ?hy⟩) (by assumption) ?_
      case hy =>
        intro w' hSw
        clear hSw
        first
          | (go_simp; done)
          | (go_simp; with_reducible rfl)
      simp only [Act.put, List.setIfInBounds_toArray, List.set_cons_zero, List.set_cons_succ]
      refine takeH 4 (some 16) (v := .agg #[.int .u8 (q.x0 : Int), .int .u8 (q.x1 : Int), .int .u8 (q.x2 : Int), .int .u8 (q.x3 : Int), .int .u8 (q.x4 : Int), .int .u8 (q.x5 : Int), .int .u8 (q.x6 : Int), .int .u8 (q.x7 : Int)]) rfl (by kernel_rfl) (by kernel_rfl) (by kernel_rfl) (by kernel_rfl) (fun _ _ _ h => h) (Or.inl ⟨by kernel_rfl, ?hy⟩) (by assumption) ?_
      case hy =>
        intro w' hSw
        simp [execOp, Act.eval, hrow w' hSw, Result.andThen]
      simp only [Act.put, List.setIfInBounds_toArray, List.set_cons_zero, List.set_cons_succ]
      clear hrow hbd HS HX Hb
      generalize wr.drew = u0 at *
      refine wpAnyH_ready (rs := [0, 5]) (by kernel_rfl) (by simp) ?_
      refine AllReadyH.cons rfl (fun K hK => ?_) (AllReadyH.cons rfl (fun K hK => ?_) AllReadyH.nil)
      · rw [if_pos (by kernel_rfl)]
        obtain ⟨zf, r0, r1, r2, r3⟩ := free4 HSd.out
        have hlg := block_lt HSd.out
        go_simp
        refine hK.out _ _ Hbd.out (fun _ => ?_)
        clear hK K
        simp only [List.setIfInBounds_toArray, List.set_cons_zero]
        clear zf r0 r1 r2 r3 hlg
        refine wpAnyH_ready (rs := [5]) (by kernel_rfl) (by simp) ?_
        refine AllReadyH.cons rfl (fun K hK => ?_) AllReadyH.nil
        rw [if_pos (by kernel_rfl)]
        go_simp
        refine (HNM.out u0).mono ?_
        rintro e u1 ⟨rfl, hb⟩
        have HS1 := Lib.hid (block_below HSd.out hb (block_lt HSd.out)); have HX1 := Lib.hid (block_below HXd.out hb (block_lt HXd.out)); have Hb1 := Lib.hid (Hbd.out.trans (hb.mono Hbd.out.size))
        clear hb
        refine hK.out _ _ Hb1.out (fun _ => ?_)
        clear hK K
        simp only [List.setIfInBounds_toArray, List.set_cons_zero, List.set_cons_succ]
        refine wpAnyH_ready (rs := [6]) (by kernel_rfl) (by simp) ?_
        refine AllReadyH.cons rfl (fun K hK => ?_) AllReadyH.nil
        rw [if_pos (by kernel_rfl)]
        go_simp
        refine (HIN.out u1).mono ?_
        rintro e u2 ⟨rfl, hb⟩
        have HS2 := Lib.hid (block_below HS1.out hb (block_lt HS1.out)); have HX2 := Lib.hid (block_below HX1.out hb (block_lt HX1.out)); have Hb2 := Lib.hid (Hb1.out.trans (hb.mono Hb1.out.size))
        clear hb
        refine hK.out _ _ Hb2.out (fun _ => ?_)
        clear hK K
        simp only [List.setIfInBounds_toArray, List.set_cons_zero, List.set_cons_succ]
        have h4 := set4 HS2.out (.int .u64 s2.a) (.int .u64 s2.b) (.int .u64 s2.c) (.int .u64 s2.d)
        have hg4 := grown_set4 u2 g (.int .u64 s2.a) (.int .u64 s2.b) (.int .u64 s2.c) (.int .u64 s2.d)
        have hx4 := (hg4.block w.heap.size (block_lt HX2.out) (by intro e; injection e with e; omega)).trans HX2.out
        have hb4 := Hb2.out.grown hg4 Hb2.out.size (fun k hk => by injection hk with hk; omega)
        obtain ⟨zf, r0, r1, r2, r3⟩ := free4 HS2.out
        have hlg := block_lt HS2.out
        refine wpAnyH_ready (rs := [7]) (by kernel_rfl) (by simp) ?_
        refine AllReadyH.cons rfl (fun K hK => ?_) AllReadyH.nil
        rw [if_pos (by kernel_rfl)]
        go_simp
        refine hK.out _ _ hb4 (fun _ => ?_)
        clear hK K
        simp only [List.setIfInBounds_toArray, List.set_cons_zero, List.set_cons_succ]
        generalize ((((u2.setCell ⟨g, 0, none⟩ (.int .u64 s2.a)).setCell ⟨g, 1, none⟩ (.int .u64 s2.b)).setCell ⟨g, 2, none⟩ (.int .u64 s2.c)).setCell ⟨g, 3, none⟩ (.int .u64 s2.d)) = u3 at *
        have HS9 : Hid (u3.heap[g]? = some (.cells #[.int .u64 s2.a, .int .u64 s2.b, .int .u64 s2.c, .int .u64 s2.d] 150 (0, 0))) := Lib.hid h4
        have HX9 := Lib.hid hx4; have Hb9 := Lib.hid hb4
        clear zf r0 r1 r2 r3 hlg h4 hg4 hx4 hb4
        refine wpAnyH_done (by kernel_rfl) ?_ _
        go_wp2
        go_roundw
        case rel => exact ⟨k + 1, Hk.out, by go_num, by rw [Hr.out]; exact HS9.out, HX9.out, Hb9.out⟩
        case measure => have := Hk.out; simp [RowKit.intOf]; omega
      · rw [if_pos (by kernel_rfl)]
        go_simp
        refine (HNM.out u0).mono ?_
        rintro e u1 ⟨rfl, hb⟩
        have HS1 := Lib.hid (block_below HSd.out hb (block_lt HSd.out)); have HX1 := Lib.hid (block_below HXd.out hb (block_lt HXd.out)); have Hb1 := Lib.hid (Hbd.out.trans (hb.mono Hbd.out.size))
        clear hb
        refine hK.out _ _ Hb1.out (fun _ => ?_)
        clear hK K
        simp only [List.setIfInBounds_toArray, List.set_cons_zero, List.set_cons_succ]
        obtain ⟨zf, r0, r1, r2, r3⟩ := free4 HS1.out
        have hlg := block_lt HS1.out
        refine wpAnyH_ready (rs := [0]) (by kernel_rfl) (by simp) ?_
        refine AllReadyH.cons rfl (fun K hK => ?_) AllReadyH.nil
        rw [if_pos (by kernel_rfl)]
        go_simp
        refine hK.out _ _ Hb1.out (fun _ => ?_)
        clear hK K
        simp only [List.setIfInBounds_toArray, List.set_cons_zero]
        clear zf r0 r1 r2 r3 hlg
        refine wpAnyH_ready (rs := [6]) (by kernel_rfl) (by simp) ?_
        refine AllReadyH.cons rfl (fun K hK => ?_) AllReadyH.nil
        rw [if_pos (by kernel_rfl)]
        go_simp
        refine (HIN.out u1).mono ?_
        rintro e u2 ⟨rfl, hb⟩
        have HS2 := Lib.hid (block_below HS1.out hb (block_lt HS1.out)); have HX2 := Lib.hid (block_below HX1.out hb (block_lt HX1.out)); have Hb2 := Lib.hid (Hb1.out.trans (hb.mono Hb1.out.size))
        clear hb
        refine hK.out _ _ Hb2.out (fun _ => ?_)
        clear hK K
        simp only [List.setIfInBounds_toArray, List.set_cons_zero, List.set_cons_succ]
        have h4 := set4 HS2.out (.int .u64 s2.a) (.int .u64 s2.b) (.int .u64 s2.c) (.int .u64 s2.d)
        have hg4 := grown_set4 u2 g (.int .u64 s2.a) (.int .u64 s2.b) (.int .u64 s2.c) (.int .u64 s2.d)
        have hx4 := (hg4.block w.heap.size (block_lt HX2.out) (by intro e; injection e with e; omega)).trans HX2.out
        have hb4 := Hb2.out.grown hg4 Hb2.out.size (fun k hk => by injection hk with hk; omega)
        obtain ⟨zf, r0, r1, r2, r3⟩ := free4 HS2.out
        have hlg := block_lt HS2.out
        refine wpAnyH_ready (rs := [7]) (by kernel_rfl) (by simp) ?_
        refine AllReadyH.cons rfl (fun K hK => ?_) AllReadyH.nil
        rw [if_pos (by kernel_rfl)]
        go_simp
        refine hK.out _ _ hb4 (fun _ => ?_)
        clear hK K
        simp only [List.setIfInBounds_toArray, List.set_cons_zero, List.set_cons_succ]
        generalize ((((u2.setCell ⟨g, 0, none⟩ (.int .u64 s2.a)).setCell ⟨g, 1, none⟩ (.int .u64 s2.b)).setCell ⟨g, 2, none⟩ (.int .u64 s2.c)).setCell ⟨g, 3, none⟩ (.int .u64 s2.d)) = u3 at *
        have HS9 : Hid (u3.heap[g]? = some (.cells #[.int .u64 s2.a, .int .u64 s2.b, .int .u64 s2.c, .int .u64 s2.d] 150 (0, 0))) := Lib.hid h4
        have HX9 := Lib.hid hx4; have Hb9 := Lib.hid hb4
        clear zf r0 r1 r2 r3 hlg h4 hg4 hx4 hb4
        refine wpAnyH_done (by kernel_rfl) ?_ _
        go_wp2
        go_roundw
        case rel => exact ⟨k + 1, Hk.out, by go_num, by rw [Hr.out]; exact HS9.out, HX9.out, Hb9.out⟩
        case measure => have := Hk.out; simp [RowKit.intOf]; omega
    · obtain rfl : k = n := by omega
      have hd1 : decide ((k : Int) < (k : Int)) = false := by simp
      have e1 : l.take k = l := by rw [← Hl.out]; exact List.take_length
      rw [e1] at HS
      have hw64 : IntKind.u64.wrap (k : Int) = (k : Int) := by rw [IntKind.wrap_u64]; omega
      obtain ⟨s2, hs2⟩ : ∃ s2, s2 = (s0.takeAll l).take (k : Int) := ⟨_, rfl⟩
      obtain ⟨dd, hdd⟩ : ∃ dd, dd = s2.out := ⟨_, rfl⟩
      have Hres : Hid (hashMany l = dd) := Lib.hid (by unfold hashMany; rw [hdd, hs2, Hs0.out, Hl.out])
      have HIN := Lib.hid (fun u => in_any (s0.takeAll l) (k : Int) u); have HOU := Lib.hid (fun u => outr_any s2 u)
      rw [← hs2] at HIN; rw [← hdd] at HOU
      generalize s0.takeAll l = st at *
      obtain ⟨zf, r0, r1, r2, r3⟩ := free4 HS.out
      have Hbx := HX
      clear hlt hk e1 hs2 hdd zf HX
      go_wp2_with fail
      refine (HIN.out wr).mono ?_
      rintro e w3 ⟨rfl, hb⟩
      have HX3 := Lib.hid (block_below Hbx.out hb (block_lt Hbx.out)); have Hb3 := Lib.hid (Hb.out.trans (hb.mono Hb.out.size))
      clear hb Hbx Hb HS r0 r1 r2 r3
      go_wp2_with fail
      refine (HOU.out w3).mono ?_
      rintro e w4 ⟨rfl, hb⟩
      have Hbx := Lib.hid (block_below HX3.out hb (block_lt HX3.out)); have Hbw := Lib.hid (Hb3.out.trans (hb.mono Hb3.out.size))
      clear hb HX3 Hb3
      obtain ⟨zf, r0, r1, r2, r3, r4, r5, r6, r7⟩ := free8 Hbx.out
      go_wp2
      clear zf r0 r1 r2 r3 r4 r5 r6 r7
      have h8 := set8 Hbx.out (.int .u8 (dd.x0 : Int)) (.int .u8 (dd.x1 : Int)) (.int .u8 (dd.x2 : Int)) (.int .u8 (dd.x3 : Int)) (.int .u8 (dd.x4 : Int)) (.int .u8 (dd.x5 : Int)) (.int .u8 (dd.x6 : Int)) (.int .u8 (dd.x7 : Int))
      have hg8 := grown_set8 w4 (w.heap.size) (.int .u8 (dd.x0 : Int)) (.int .u8 (dd.x1 : Int)) (.int .u8 (dd.x2 : Int)) (.int .u8 (dd.x3 : Int)) (.int .u8 (dd.x4 : Int)) (.int .u8 (dd.x5 : Int)) (.int .u8 (dd.x6 : Int)) (.int .u8 (dd.x7 : Int))
      generalize ((((((((w4.setCell ⟨w.heap.size, 0, none⟩ (.int .u8 (dd.x0 : Int))).setCell ⟨w.heap.size, 1, none⟩ (.int .u8 (dd.x1 : Int))).setCell ⟨w.heap.size, 2, none⟩ (.int .u8 (dd.x2 : Int))).setCell ⟨w.heap.size, 3, none⟩ (.int .u8 (dd.x3 : Int))).setCell ⟨w.heap.size, 4, none⟩ (.int .u8 (dd.x4 : Int))).setCell ⟨w.heap.size, 5, none⟩ (.int .u8 (dd.x5 : Int))).setCell ⟨w.heap.size, 6, none⟩ (.int .u8 (dd.x6 : Int))).setCell ⟨w.heap.size, 7, none⟩ (.int .u8 (dd.x7 : Int))) = w10 at *
      obtain ⟨zf, r0, r1, r2, r3, r4, r5, r6, r7⟩ := free8 h8
      have Hb2 := Lib.hid (Hbw.out.grown hg8 Hbw.out.size (fun k hk => by injection hk with hk; omega))
      clear h8 hg8
      refine bodyPost_ret (v := .agg #[.int .u8 (dd.x0 : Int), .int .u8 (dd.x1 : Int), .int .u8 (dd.x2 : Int), .int .u8 (dd.x3 : Int), .int .u8 (dd.x4 : Int), .int .u8 (dd.x5 : Int), .int .u8 (dd.x6 : Int), .int .u8 (dd.x7 : Int)]) (by simp [results, Tryz.results77, go_sem, r0, r1, r2, r3, r4, r5, r6, r7]) rfl ⟨by rw [Hres.out], Hb2.out⟩
end Go.Proofs.YtmpklplojfjfbaaGreatDoor
namespace Go.Proofs.YtmpklplojfjfbaaGreatDoor
open Go.RowKit Go.Lib






set_option maxRecDepth 100000 in
set_option maxHeartbeats 2000000 in
theorem power_any (h : Nat) (w : World) (hh : h ≤ 8) : Calls Tryz.prog 108 #[.int .i64 (h : Int)] w fun e w' => e = .returned (.int .i64 ((2 ^ h : Nat) : Int)) ∧ w' = w := by
  go_enter Tryz.func108, Tryz.ntmps108
  go_wp2
  go_loopw [3, 4] (fun s3 s4 wr => ∃ (k N : Nat), k ≤ h ∧ N = 2 ^ k ∧ s3 = .int .i64 (N : Int) ∧ s4 = .int .i64 (k : Int) ∧ wr = w) (fun _ s4 _ => h - (RowKit.intOf s4).toNat)
  case atStart => exact ⟨0, 1, Nat.zero_le _, rfl, rfl, rfl, rfl⟩
  case round =>
    obtain ⟨k, N, hk, hN, rfl, rfl, rfl⟩ := hrel
    have hp := pow_le8 (Nat.le_trans hk hh)
    rw [← hN] at hp
    have HN := Lib.hid hN
    clear hN
    by_cases hlt : k < h
    · have hd1 : decide ((k : Int) < (h : Int)) = true := decide_eq_true (by omega)
      have hw1 : wrap64 (2 * (N : Int)) = ((2 * N : Nat) : Int) := by simp only [wrap64]; omega
      have hw2 : IntKind.i64.wrap (2 * (N : Int)) = ((2 * N : Nat) : Int) := by rw [IntKind.wrap_i64]; omega
      have hs : 2 * N = 2 ^ (k + 1) := by rw [HN.out, Nat.pow_succ]; exact Nat.mul_comm _ _
      have Hs := Lib.hid hs
      have Hk := Lib.hid hlt
      clear hs
      go_wp2
      go_roundw
      case rel => exact ⟨k + 1, 2 * N, Hk.out, Hs.out, by go_num, by go_num, by first | rfl | trivial⟩
      case measure => have := Hk.out; simp [RowKit.intOf]; omega
    · obtain rfl : k = h := by omega
      have hd1 : decide ((k : Int) < (k : Int)) = false := by simp
      go_wp2
      go_ret
      exact ⟨ret_int (by rw [HN.out]), rfl⟩
set_option maxRecDepth 100000 in
set_option maxHeartbeats 2000000 in
theorem rheight_any (h M : Nat) (w : World) (hh : h ≤ 8) (hM : M = 2 ^ h) : Calls Tryz.prog 63 #[.int .i64 (M : Int)] w fun e w' => e = .returned (.int .i64 (h : Int)) ∧ w' = w := by
  have hp := pow_le8 hh
  rw [← hM] at hp
  have HM := Lib.hid hM
  have d0 : decide ((M : Int) < 1) = false := decide_eq_false (by omega)
  have d1 : decide ((4096 : Int) < (M : Int)) = false := decide_eq_false (by omega)
  clear hM
  go_enter Tryz.func63, Tryz.ntmps63
  go_wp2
  go_loopw [3, 4] (fun s3 s4 wr => ∃ (k N : Nat), k ≤ h ∧ N = 2 ^ k ∧ s4 = .int .i64 (N : Int) ∧ s3 = .int .i64 (k : Int) ∧ wr = w) (fun s3 _ _ => h - (RowKit.intOf s3).toNat)
  case atStart => exact ⟨0, 1, Nat.zero_le _, rfl, rfl, rfl, rfl⟩
  case round =>
    obtain ⟨k, N, hk, hN, rfl, rfl, rfl⟩ := hrel
    have hp2 := pow_le8 (Nat.le_trans hk hh)
    rw [← hN] at hp2
    by_cases hlt : k < h
    · have hNM : N < M := by
        rw [hN, HM.out]
        exact Nat.pow_lt_pow_right (by decide) hlt
      have hs : 2 * N = 2 ^ (k + 1) := by rw [hN, Nat.pow_succ]; exact Nat.mul_comm _ _
      have Hs := Lib.hid hs
      have Hk := Lib.hid hlt
      clear hs hN
      have hd1 : decide ((N : Int) < (M : Int)) = true := decide_eq_true (by omega)
      have hw1 : wrap64 (2 * (N : Int)) = ((2 * N : Nat) : Int) := by simp only [wrap64]; omega
      have hw2 : IntKind.i64.wrap (2 * (N : Int)) = ((2 * N : Nat) : Int) := by rw [IntKind.wrap_i64]; omega
      go_wp2
      go_roundw
      case rel => exact ⟨k + 1, 2 * N, Hk.out, Hs.out, by go_num, by go_num, by first | rfl | trivial⟩
      case measure => have := Hk.out; simp [RowKit.intOf]; omega
    · obtain rfl : k = h := by omega
      obtain rfl : N = M := by rw [hN, HM.out]
      have hd1 : decide ((N : Int) < (N : Int)) = false := by simp
      clear hN HM
      go_wp2
      go_ret
      exact ⟨rfl, rfl⟩
theorem name_app {h : Nat} (hh : h < 10) : (⟨#[114, 111, 111, 116]⟩ : ByteArray) ++ digW h = rootW h := root_app hh
set_option maxRecDepth 100000 in
set_option maxHeartbeats 4000000 in
theorem name_any (h : Nat) (w : World) (hh : h ≤ 8) : Calls Tryz.prog 69 #[.int .i64 (h : Int)] w fun e w' => e = .returned (.string (rootW h)) ∧ Below w.heap.size w w' := by
  have hcv := conv_bytes (Rd.newA (n := 1) (sz := 1) (xs := bv [48 + h]) w 5 #[.int .u8 ((48 + h : Nat) : Int)] rfl rfl) 1 9 Tryz.underlying9
  have hap : (⟨#[114, 111, 111, 116]⟩ : ByteArray) ++ strS [48 + h] = rootW h := by
    have : h = 0 ∨ h = 1 ∨ h = 2 ∨ h = 3 ∨ h = 4 ∨ h = 5 ∨ h = 6 ∨ h = 7 ∨ h = 8 := by omega
    rcases this with rfl | rfl | rfl | rfl | rfl | rfl | rfl | rfl | rfl <;> decide +kernel
  have d0 : decide ((10 : Int) ≤ (h : Int)) = false := decide_eq_false (by omega)
  have hw1 : wrap64 (48 + (h : Int)) = ((48 + h : Nat) : Int) := by simp only [wrap64]; omega
  have hw2 : IntKind.i64.wrap (48 + (h : Int)) = ((48 + h : Nat) : Int) := by rw [IntKind.wrap_i64]; omega
  have hw3 : IntKind.u8.wrap ((48 + h : Nat) : Int) = ((48 + h : Nat) : Int) := by rw [IntKind.wrap_u8]; omega
  have hsz : (strS [48 + h]).size = 1 := by
    have : h = 0 ∨ h = 1 ∨ h = 2 ∨ h = 3 ∨ h = 4 ∨ h = 5 ∨ h = 6 ∨ h = 7 ∨ h = 8 := by omega
    rcases this with rfl | rfl | rfl | rfl | rfl | rfl | rfl | rfl | rfl <;> decide +kernel
  have hns : ¬ 9223372036854775807 < 4 + (strS [48 + h]).size := by rw [hsz]; decide
  have Hap := Lib.hid hap
  clear hap hsz
  generalize strS [48 + h] = st at *
  generalize 48 + h = q at *
  go_enter Tryz.func69, Tryz.ntmps69
  go_wp2
  go_ret
  exact ⟨by rw [← Hap.out]; rfl, h_one _ _⟩
set_option maxRecDepth 100000 in
set_option maxHeartbeats 2000000 in
theorem lowr_any (d : D8) (w : World) (hd : d.ok) : Calls Tryz.prog 104 #[.agg #[.int .u8 (d.x0 : Int), .int .u8 (d.x1 : Int), .int .u8 (d.x2 : Int), .int .u8 (d.x3 : Int), .int .u8 (d.x4 : Int), .int .u8 (d.x5 : Int), .int .u8 (d.x6 : Int), .int .u8 (d.x7 : Int)]] w fun e w' => e = .returned (.agg #[.int .u8 ((lowD d).x0 : Int), .int .u8 ((lowD d).x1 : Int), .int .u8 ((lowD d).x2 : Int), .int .u8 ((lowD d).x3 : Int), .int .u8 ((lowD d).x4 : Int), .int .u8 ((lowD d).x5 : Int), .int .u8 ((lowD d).x6 : Int), .int .u8 ((lowD d).x7 : Int)]) ∧ Below w.heap.size w w' := by
  obtain ⟨hd0, hx0, hw0, hz0⟩ := alloc2 w (.cells #[.int .u8 (d.x0 : Int), .int .u8 (d.x1 : Int), .int .u8 (d.x2 : Int), .int .u8 (d.x3 : Int), .int .u8 (d.x4 : Int), .int .u8 (d.x5 : Int), .int .u8 (d.x6 : Int), .int .u8 (d.x7 : Int)] 22) (.cells #[.int .u8 0, .int .u8 0, .int .u8 0, .int .u8 0, .int .u8 0, .int .u8 0, .int .u8 0, .int .u8 0] 22)
  have HD0 := Lib.hid hd0; have HX0 := Lib.hid hx0; have Hw0 := Lib.hid hw0
  have Hc := Lib.hid (fun u => rword_any d leafW u hd (by decide))
  obtain ⟨dd, hdd⟩ : ∃ dd, dd = hashWord d (wordB leafW) := ⟨_, rfl⟩
  have Hres : Hid (lowD d = dd) := Lib.hid (by rw [hdd]; rfl)
  rw [← hdd] at Hc
  clear hd hd0 hx0 hw0 hz0 hdd
  go_enter Tryz.func104, Tryz.ntmps104
  go_upto_region 1 with fail
  generalize (w.alloc (.cells #[.int .u8 (d.x0 : Int), .int .u8 (d.x1 : Int), .int .u8 (d.x2 : Int), .int .u8 (d.x3 : Int), .int .u8 (d.x4 : Int), .int .u8 (d.x5 : Int), .int .u8 (d.x6 : Int), .int .u8 (d.x7 : Int)] 22)).alloc (.cells #[.int .u8 0, .int .u8 0, .int .u8 0, .int .u8 0, .int .u8 0, .int .u8 0, .int .u8 0, .int .u8 0] 22) = v0 at *
  obtain ⟨zf, r0, r1, r2, r3, r4, r5, r6, r7⟩ := free8 HD0.out
  have hl0 := block_lt HD0.out
  clear zf
  go_wp2_with fail
  refine (Hc.out v0).mono ?_
  rintro e v1 ⟨rfl, hb⟩
  have Hbx := Lib.hid (block_below HX0.out hb (block_lt HX0.out)); have Hbw := Lib.hid (Hw0.out.trans (hb.mono Hw0.out.size))
  clear hb r0 r1 r2 r3 r4 r5 r6 r7 hl0
  obtain ⟨zf, r0, r1, r2, r3, r4, r5, r6, r7⟩ := free8 Hbx.out
  go_wp2
  clear zf r0 r1 r2 r3 r4 r5 r6 r7
  have h8 := set8 Hbx.out (.int .u8 (dd.x0 : Int)) (.int .u8 (dd.x1 : Int)) (.int .u8 (dd.x2 : Int)) (.int .u8 (dd.x3 : Int)) (.int .u8 (dd.x4 : Int)) (.int .u8 (dd.x5 : Int)) (.int .u8 (dd.x6 : Int)) (.int .u8 (dd.x7 : Int))
  have hg8 := grown_set8 v1 (w.heap.size + 1) (.int .u8 (dd.x0 : Int)) (.int .u8 (dd.x1 : Int)) (.int .u8 (dd.x2 : Int)) (.int .u8 (dd.x3 : Int)) (.int .u8 (dd.x4 : Int)) (.int .u8 (dd.x5 : Int)) (.int .u8 (dd.x6 : Int)) (.int .u8 (dd.x7 : Int))
  generalize ((((((((v1.setCell ⟨w.heap.size + 1, 0, none⟩ (.int .u8 (dd.x0 : Int))).setCell ⟨w.heap.size + 1, 1, none⟩ (.int .u8 (dd.x1 : Int))).setCell ⟨w.heap.size + 1, 2, none⟩ (.int .u8 (dd.x2 : Int))).setCell ⟨w.heap.size + 1, 3, none⟩ (.int .u8 (dd.x3 : Int))).setCell ⟨w.heap.size + 1, 4, none⟩ (.int .u8 (dd.x4 : Int))).setCell ⟨w.heap.size + 1, 5, none⟩ (.int .u8 (dd.x5 : Int))).setCell ⟨w.heap.size + 1, 6, none⟩ (.int .u8 (dd.x6 : Int))).setCell ⟨w.heap.size + 1, 7, none⟩ (.int .u8 (dd.x7 : Int))) = w10 at *
  obtain ⟨zf, r0, r1, r2, r3, r4, r5, r6, r7⟩ := free8 h8
  have Hb2 := Lib.hid (Hbw.out.grown hg8 Hbw.out.size (fun k hk => by injection hk with hk; omega))
  clear h8 hg8
  refine bodyPost_ret (v := .agg #[.int .u8 (dd.x0 : Int), .int .u8 (dd.x1 : Int), .int .u8 (dd.x2 : Int), .int .u8 (dd.x3 : Int), .int .u8 (dd.x4 : Int), .int .u8 (dd.x5 : Int), .int .u8 (dd.x6 : Int), .int .u8 (dd.x7 : Int)]) (by simp [results, Tryz.results104, go_sem, r0, r1, r2, r3, r4, r5, r6, r7]) rfl ⟨by rw [Hres.out], Hb2.out⟩
set_option maxRecDepth 100000 in
set_option maxHeartbeats 2000000 in
theorem beginO_any (d : D8) (c : Nat) (w : World) (hd : d.ok) (hc : c < 1000000) : Calls Tryz.prog 59 #[.agg #[.int .u8 (d.x0 : Int), .int .u8 (d.x1 : Int), .int .u8 (d.x2 : Int), .int .u8 (d.x3 : Int), .int .u8 (d.x4 : Int), .int .u8 (d.x5 : Int), .int .u8 (d.x6 : Int), .int .u8 (d.x7 : Int)], .int .i64 (c : Int)] w fun e w' => e = .returned (.agg #[.int .u8 ((startD d c).x0 : Int), .int .u8 ((startD d c).x1 : Int), .int .u8 ((startD d c).x2 : Int), .int .u8 ((startD d c).x3 : Int), .int .u8 ((startD d c).x4 : Int), .int .u8 ((startD d c).x5 : Int), .int .u8 ((startD d c).x6 : Int), .int .u8 ((startD d c).x7 : Int)]) ∧ Below w.heap.size w w' := by
  obtain ⟨hd0, hx0, hw0, hz0⟩ := alloc2 w (.cells #[.int .u8 (d.x0 : Int), .int .u8 (d.x1 : Int), .int .u8 (d.x2 : Int), .int .u8 (d.x3 : Int), .int .u8 (d.x4 : Int), .int .u8 (d.x5 : Int), .int .u8 (d.x6 : Int), .int .u8 (d.x7 : Int)] 22) (.cells #[.int .u8 0, .int .u8 0, .int .u8 0, .int .u8 0, .int .u8 0, .int .u8 0, .int .u8 0, .int .u8 0] 22)
  obtain ⟨q, hq⟩ : ∃ q, q = D8.of c := ⟨_, rfl⟩
  obtain ⟨dd, hdd⟩ : ∃ dd, dd = hashTwo d q := ⟨_, rfl⟩
  have HFN := Lib.hid (fun u => rfrom_any c u (by omega)); have HTW := Lib.hid (fun u => rtwo_any d q u hd (by rw [hq]; exact D8.of_ok _))
  have Hres : Hid (startD d c = dd) := Lib.hid (by rw [hdd, hq]; rfl)
  rw [← hq] at HFN; rw [← hdd] at HTW
  have hwc : IntKind.u64.wrap (c : Int) = (c : Int) := by rw [IntKind.wrap_u64]; omega
  have H0 := Lib.hid (And.intro hw0 hd0); have HX0 := Lib.hid hx0
  clear hd hd0 hx0 hw0 hz0 hq hdd
  go_enter Tryz.func59, Tryz.ntmps59
  go_upto_region 1 with fail
  generalize (w.alloc (.cells #[.int .u8 (d.x0 : Int), .int .u8 (d.x1 : Int), .int .u8 (d.x2 : Int), .int .u8 (d.x3 : Int), .int .u8 (d.x4 : Int), .int .u8 (d.x5 : Int), .int .u8 (d.x6 : Int), .int .u8 (d.x7 : Int)] 22)).alloc (.cells #[.int .u8 0, .int .u8 0, .int .u8 0, .int .u8 0, .int .u8 0, .int .u8 0, .int .u8 0, .int .u8 0] 22) = v0 at *
  have hL : ∀ w', (Below w.heap.size w w' ∧ w'.heap[w.heap.size]? = some (.cells #[.int .u8 (d.x0 : Int), .int .u8 (d.x1 : Int), .int .u8 (d.x2 : Int), .int .u8 (d.x3 : Int), .int .u8 (d.x4 : Int), .int .u8 (d.x5 : Int), .int .u8 (d.x6 : Int), .int .u8 (d.x7 : Int)] 22 (0, 0))) → (Instr.loadAt 22 (.pointer (some ⟨w.heap.size, 0, none⟩))).run Tryz.prog w' = .ok (.agg #[.int .u8 (d.x0 : Int), .int .u8 (d.x1 : Int), .int .u8 (d.x2 : Int), .int .u8 (d.x3 : Int), .int .u8 (d.x4 : Int), .int .u8 (d.x5 : Int), .int .u8 (d.x6 : Int), .int .u8 (d.x7 : Int)]) w' := fun w' h => load_d8 h.2
  have hS0 : Below w.heap.size w v0.drew ∧ v0.drew.heap[w.heap.size]? = some (.cells #[.int .u8 (d.x0 : Int), .int .u8 (d.x1 : Int), .int .u8 (d.x2 : Int), .int .u8 (d.x3 : Int), .int .u8 (d.x4 : Int), .int .u8 (d.x5 : Int), .int .u8 (d.x6 : Int), .int .u8 (d.x7 : Int)] 22 (0, 0)) := ⟨H0.out.1.drew, H0.out.2⟩
  have Hd0 := Lib.hid hS0
  have HXd0 : Hid (v0.drew.heap[w.heap.size + 1]? = some (.cells #[.int .u8 0, .int .u8 0, .int .u8 0, .int .u8 0, .int .u8 0, .int .u8 0, .int .u8 0, .int .u8 0] 22 (0, 0))) := HX0
  refine wp_region_held_drew (S := fun w' => Below w.heap.size w w' ∧ w'.heap[w.heap.size]? = some (.cells #[.int .u8 (d.x0 : Int), .int .u8 (d.x1 : Int), .int .u8 (d.x2 : Int), .int .u8 (d.x3 : Int), .int .u8 (d.x4 : Int), .int .u8 (d.x5 : Int), .int .u8 (d.x6 : Int), .int .u8 (d.x7 : Int)] 22 (0, 0))) (by kernel_rfl) hS0 (fun hHeld => ?_)
  rw [show Array.replicate _ false = (#[false, false, false, false, false, false] : Array Bool) from rfl]
  refine takeH 0 (some 5) (v := .agg #[.int .u8 (d.x0 : Int), .int .u8 (d.x1 : Int), .int .u8 (d.x2 : Int), .int .u8 (d.x3 : Int), .int .u8 (d.x4 : Int), .int .u8 (d.x5 : Int), .int .u8 (d.x6 : Int), .int .u8 (d.x7 : Int)]) rfl (by kernel_rfl) (by kernel_rfl) (by kernel_rfl) (by kernel_rfl) (fun _ _ _ h => h) (Or.inl ⟨by kernel_rfl, ?hy⟩) (by assumption) ?_
  case hy =>
    intro w' hSw
    simp [execOp, Act.eval, hL w' hSw, Result.andThen]
  simp only [Act.put, List.setIfInBounds_toArray, List.set_cons_zero, List.set_cons_succ]
  refine takeH 1 (some 6) (v := ?_) rfl (by kernel_rfl) (by kernel_rfl) (by kernel_rfl) (by kernel_rfl) (fun _ _ _ h => h) (Or.inl ⟨by kernel_rfl, ?hy⟩) (by assumption) ?_
  case hy =>
    intro w' hSw
    clear hSw
    first
      | (go_simp; done)
      | (go_simp; with_reducible rfl)
  simp only [Act.put, List.setIfInBounds_toArray, List.set_cons_zero, List.set_cons_succ]
  refine takeH 2 (some 7) (v := ?_) rfl (by kernel_rfl) (by kernel_rfl) (by kernel_rfl) (by kernel_rfl) (fun _ _ _ h => h) (Or.inl ⟨by kernel_rfl, ?hy⟩) (by assumption) ?_
  case hy =>
    intro w' hSw
    clear hSw
    first
      | (go_simp; done)
      | (go_simp; with_reducible rfl)
  simp only [Act.put, List.setIfInBounds_toArray, List.set_cons_zero, List.set_cons_succ]
  clear hL hS0
  refine wpAnyH_ready (rs := [3]) (by kernel_rfl) (by simp) ?_
  refine AllReadyH.cons rfl (fun K hK => ?_) AllReadyH.nil
  rw [if_pos (by kernel_rfl)]
  go_simp
  refine (HFN.out _).mono ?_
  rintro e v1 ⟨rfl, hb⟩
  have H1 := Lib.hid (And.intro (Hd0.out.1.trans (hb.mono Hd0.out.1.size)) (block_below Hd0.out.2 hb (block_lt Hd0.out.2)))
  have HX1 := Lib.hid (block_below HXd0.out hb (block_lt HXd0.out))
  clear hb
  refine hK.out _ _ H1.out (fun _ => ?_)
  clear hK K
  simp only [List.setIfInBounds_toArray, List.set_cons_zero, List.set_cons_succ]
  refine wpAnyH_ready (rs := [4]) (by kernel_rfl) (by simp) ?_
  refine AllReadyH.cons rfl (fun K hK => ?_) AllReadyH.nil
  rw [if_pos (by kernel_rfl)]
  go_simp
  refine (HTW.out _).mono ?_
  rintro e v2 ⟨rfl, hb⟩
  have H2 := Lib.hid (And.intro (H1.out.1.trans (hb.mono H1.out.1.size)) (block_below H1.out.2 hb (block_lt H1.out.2)))
  have HX2 := Lib.hid (block_below HX1.out hb (block_lt HX1.out))
  clear hb
  refine hK.out _ _ H2.out (fun _ => ?_)
  clear hK K
  simp only [List.setIfInBounds_toArray, List.set_cons_zero, List.set_cons_succ]
  obtain ⟨zf, r0, r1, r2, r3, r4, r5, r6, r7⟩ := free8 HX2.out
  have hlx := block_lt HX2.out
  have h8 := set8 HX2.out (.int .u8 (dd.x0 : Int)) (.int .u8 (dd.x1 : Int)) (.int .u8 (dd.x2 : Int)) (.int .u8 (dd.x3 : Int)) (.int .u8 (dd.x4 : Int)) (.int .u8 (dd.x5 : Int)) (.int .u8 (dd.x6 : Int)) (.int .u8 (dd.x7 : Int))
  have hg8 := grown_set8 v2 (w.heap.size + 1) (.int .u8 (dd.x0 : Int)) (.int .u8 (dd.x1 : Int)) (.int .u8 (dd.x2 : Int)) (.int .u8 (dd.x3 : Int)) (.int .u8 (dd.x4 : Int)) (.int .u8 (dd.x5 : Int)) (.int .u8 (dd.x6 : Int)) (.int .u8 (dd.x7 : Int))
  have hS5 : Below w.heap.size w ((((((((v2.setCell ⟨w.heap.size + 1, 0, none⟩ (.int .u8 (dd.x0 : Int))).setCell ⟨w.heap.size + 1, 1, none⟩ (.int .u8 (dd.x1 : Int))).setCell ⟨w.heap.size + 1, 2, none⟩ (.int .u8 (dd.x2 : Int))).setCell ⟨w.heap.size + 1, 3, none⟩ (.int .u8 (dd.x3 : Int))).setCell ⟨w.heap.size + 1, 4, none⟩ (.int .u8 (dd.x4 : Int))).setCell ⟨w.heap.size + 1, 5, none⟩ (.int .u8 (dd.x5 : Int))).setCell ⟨w.heap.size + 1, 6, none⟩ (.int .u8 (dd.x6 : Int))).setCell ⟨w.heap.size + 1, 7, none⟩ (.int .u8 (dd.x7 : Int))) ∧ (((((((((v2.setCell ⟨w.heap.size + 1, 0, none⟩ (.int .u8 (dd.x0 : Int))).setCell ⟨w.heap.size + 1, 1, none⟩ (.int .u8 (dd.x1 : Int))).setCell ⟨w.heap.size + 1, 2, none⟩ (.int .u8 (dd.x2 : Int))).setCell ⟨w.heap.size + 1, 3, none⟩ (.int .u8 (dd.x3 : Int))).setCell ⟨w.heap.size + 1, 4, none⟩ (.int .u8 (dd.x4 : Int))).setCell ⟨w.heap.size + 1, 5, none⟩ (.int .u8 (dd.x5 : Int))).setCell ⟨w.heap.size + 1, 6, none⟩ (.int .u8 (dd.x6 : Int))).setCell ⟨w.heap.size + 1, 7, none⟩ (.int .u8 (dd.x7 : Int)))).heap[w.heap.size]? = some (.cells #[.int .u8 (d.x0 : Int), .int .u8 (d.x1 : Int), .int .u8 (d.x2 : Int), .int .u8 (d.x3 : Int), .int .u8 (d.x4 : Int), .int .u8 (d.x5 : Int), .int .u8 (d.x6 : Int), .int .u8 (d.x7 : Int)] 22 (0, 0)) := ⟨H2.out.1.grown hg8 H2.out.1.size (fun k hk => by injection hk with hk; omega), (hg8.block _ (block_lt H2.out.2) (by intro e; injection e with e; omega)).trans H2.out.2⟩
  refine wpAnyH_ready (rs := [5]) (by kernel_rfl) (by simp) ?_
  refine AllReadyH.cons rfl (fun K hK => ?_) AllReadyH.nil
  rw [if_pos (by kernel_rfl)]
  go_simp
  refine hK.out _ _ hS5 (fun _ => ?_)
  clear hK K
  simp only [List.setIfInBounds_toArray, List.set_cons_zero, List.set_cons_succ]
  refine wpAnyH_done (by kernel_rfl) ?_ _
  have Hb5 := Lib.hid hS5.1
  clear hS5 hg8 zf r0 r1 r2 r3 r4 r5 r6 r7
  generalize ((((((((v2.setCell ⟨w.heap.size + 1, 0, none⟩ (.int .u8 (dd.x0 : Int))).setCell ⟨w.heap.size + 1, 1, none⟩ (.int .u8 (dd.x1 : Int))).setCell ⟨w.heap.size + 1, 2, none⟩ (.int .u8 (dd.x2 : Int))).setCell ⟨w.heap.size + 1, 3, none⟩ (.int .u8 (dd.x3 : Int))).setCell ⟨w.heap.size + 1, 4, none⟩ (.int .u8 (dd.x4 : Int))).setCell ⟨w.heap.size + 1, 5, none⟩ (.int .u8 (dd.x5 : Int))).setCell ⟨w.heap.size + 1, 6, none⟩ (.int .u8 (dd.x6 : Int))).setCell ⟨w.heap.size + 1, 7, none⟩ (.int .u8 (dd.x7 : Int))) = v5 at *
  obtain ⟨zf, r0, r1, r2, r3, r4, r5, r6, r7⟩ := free8 h8
  go_wp2
  refine bodyPost_ret (v := .agg #[.int .u8 (dd.x0 : Int), .int .u8 (dd.x1 : Int), .int .u8 (dd.x2 : Int), .int .u8 (dd.x3 : Int), .int .u8 (dd.x4 : Int), .int .u8 (dd.x5 : Int), .int .u8 (dd.x6 : Int), .int .u8 (dd.x7 : Int)]) (by simp [results, Tryz.results59, go_sem, r0, r1, r2, r3, r4, r5, r6, r7]) rfl ⟨by rw [Hres.out], Hb5.out⟩
set_option maxRecDepth 100000 in
set_option maxHeartbeats 2000000 in
theorem secret_any (s : D8) (h : Nat) (A : Option Addr) (n c : Nat) (i : Nat) (w : World) (hs : s.ok) (hi : i < 1000000) : Calls Tryz.prog 26 #[.agg #[.int .u8 (s.x0 : Int), .int .u8 (s.x1 : Int), .int .u8 (s.x2 : Int), .int .u8 (s.x3 : Int), .int .u8 (s.x4 : Int), .int .u8 (s.x5 : Int), .int .u8 (s.x6 : Int), .int .u8 (s.x7 : Int), .int .i64 (h : Int), (.slice A n c)], .int .i64 (i : Int)] w fun e w' => e = .returned (.agg #[.int .u8 ((ownD s i).x0 : Int), .int .u8 ((ownD s i).x1 : Int), .int .u8 ((ownD s i).x2 : Int), .int .u8 ((ownD s i).x3 : Int), .int .u8 ((ownD s i).x4 : Int), .int .u8 ((ownD s i).x5 : Int), .int .u8 ((ownD s i).x6 : Int), .int .u8 ((ownD s i).x7 : Int)]) ∧ Below w.heap.size w w' := by
  obtain ⟨hd0, hx0, hw0, hz0⟩ := alloc2 w (.cells #[.int .u8 (s.x0 : Int), .int .u8 (s.x1 : Int), .int .u8 (s.x2 : Int), .int .u8 (s.x3 : Int), .int .u8 (s.x4 : Int), .int .u8 (s.x5 : Int), .int .u8 (s.x6 : Int), .int .u8 (s.x7 : Int), .int .i64 (h : Int), (.slice A n c)] 28) (.cells #[.int .u8 0, .int .u8 0, .int .u8 0, .int .u8 0, .int .u8 0, .int .u8 0, .int .u8 0, .int .u8 0] 22)
  have HD0 := Lib.hid hd0; have HX0 := Lib.hid hx0; have Hw0 := Lib.hid hw0
  obtain ⟨k, hk⟩ : ∃ k, k = hashWord s (wordB keyW) := ⟨_, rfl⟩
  obtain ⟨q, hq⟩ : ∃ q, q = D8.of i := ⟨_, rfl⟩
  obtain ⟨dd, hdd⟩ : ∃ dd, dd = hashTwo k q := ⟨_, rfl⟩
  have HKW := Lib.hid (fun u => rword_any s keyW u hs (by decide)); have HFN := Lib.hid (fun u => rfrom_any i u (by omega)); have HTW := Lib.hid (fun u => rtwo_any k q u (by rw [hk]; exact hs_ok _) (by rw [hq]; exact D8.of_ok _))
  have Hres : Hid (ownD s i = dd) := Lib.hid (by rw [hdd, hq, hk]; rfl)
  rw [← hk] at HKW; rw [← hq] at HFN; rw [← hdd] at HTW
  have hwc : IntKind.u64.wrap (i : Int) = (i : Int) := by rw [IntKind.wrap_u64]; omega
  clear hs hd0 hx0 hw0 hz0 hk hq hdd
  go_enter Tryz.func26, Tryz.ntmps26
  go_upto_region 1 with fail
  generalize (w.alloc (.cells #[.int .u8 (s.x0 : Int), .int .u8 (s.x1 : Int), .int .u8 (s.x2 : Int), .int .u8 (s.x3 : Int), .int .u8 (s.x4 : Int), .int .u8 (s.x5 : Int), .int .u8 (s.x6 : Int), .int .u8 (s.x7 : Int), .int .i64 (h : Int), (.slice A n c)] 28)).alloc (.cells #[.int .u8 0, .int .u8 0, .int .u8 0, .int .u8 0, .int .u8 0, .int .u8 0, .int .u8 0, .int .u8 0] 22) = v0 at *
  obtain ⟨zf, r0, r1, r2, r3, r4, r5, r6, r7, r8, r9⟩ := free10 HD0.out
  have hl0 := block_lt HD0.out
  clear zf
  go_wp2_with fail
  refine (HKW.out v0).mono ?_
  rintro e v1 ⟨rfl, hb⟩
  have HX1 := Lib.hid (block_below HX0.out hb (block_lt HX0.out)); have Hw1 := Lib.hid (Hw0.out.trans (hb.mono Hw0.out.size))
  clear hb r0 r1 r2 r3 r4 r5 r6 r7 r8 r9 hl0
  go_wp2_with fail
  refine (HFN.out v1).mono ?_
  rintro e v2 ⟨rfl, hb⟩
  have HX2 := Lib.hid (block_below HX1.out hb (block_lt HX1.out)); have Hw2 := Lib.hid (Hw1.out.trans (hb.mono Hw1.out.size))
  clear hb
  go_wp2_with fail
  refine (HTW.out v2).mono ?_
  rintro e v3 ⟨rfl, hb⟩
  have Hbx := Lib.hid (block_below HX2.out hb (block_lt HX2.out)); have Hbw := Lib.hid (Hw2.out.trans (hb.mono Hw2.out.size))
  clear hb
  obtain ⟨zf, r0, r1, r2, r3, r4, r5, r6, r7⟩ := free8 Hbx.out
  go_wp2
  clear zf r0 r1 r2 r3 r4 r5 r6 r7
  have h8 := set8 Hbx.out (.int .u8 (dd.x0 : Int)) (.int .u8 (dd.x1 : Int)) (.int .u8 (dd.x2 : Int)) (.int .u8 (dd.x3 : Int)) (.int .u8 (dd.x4 : Int)) (.int .u8 (dd.x5 : Int)) (.int .u8 (dd.x6 : Int)) (.int .u8 (dd.x7 : Int))
  have hg8 := grown_set8 v3 (w.heap.size + 1) (.int .u8 (dd.x0 : Int)) (.int .u8 (dd.x1 : Int)) (.int .u8 (dd.x2 : Int)) (.int .u8 (dd.x3 : Int)) (.int .u8 (dd.x4 : Int)) (.int .u8 (dd.x5 : Int)) (.int .u8 (dd.x6 : Int)) (.int .u8 (dd.x7 : Int))
  generalize ((((((((v3.setCell ⟨w.heap.size + 1, 0, none⟩ (.int .u8 (dd.x0 : Int))).setCell ⟨w.heap.size + 1, 1, none⟩ (.int .u8 (dd.x1 : Int))).setCell ⟨w.heap.size + 1, 2, none⟩ (.int .u8 (dd.x2 : Int))).setCell ⟨w.heap.size + 1, 3, none⟩ (.int .u8 (dd.x3 : Int))).setCell ⟨w.heap.size + 1, 4, none⟩ (.int .u8 (dd.x4 : Int))).setCell ⟨w.heap.size + 1, 5, none⟩ (.int .u8 (dd.x5 : Int))).setCell ⟨w.heap.size + 1, 6, none⟩ (.int .u8 (dd.x6 : Int))).setCell ⟨w.heap.size + 1, 7, none⟩ (.int .u8 (dd.x7 : Int))) = w10 at *
  obtain ⟨zf, r0, r1, r2, r3, r4, r5, r6, r7⟩ := free8 h8
  have Hb2 := Lib.hid (Hbw.out.grown hg8 Hbw.out.size (fun k hk => by injection hk with hk; omega))
  clear h8 hg8
  refine bodyPost_ret (v := .agg #[.int .u8 (dd.x0 : Int), .int .u8 (dd.x1 : Int), .int .u8 (dd.x2 : Int), .int .u8 (dd.x3 : Int), .int .u8 (dd.x4 : Int), .int .u8 (dd.x5 : Int), .int .u8 (dd.x6 : Int), .int .u8 (dd.x7 : Int)]) (by simp [results, Tryz.results26, go_sem, r0, r1, r2, r3, r4, r5, r6, r7]) rfl ⟨by rw [Hres.out], Hb2.out⟩
end Go.Proofs.YtmpklplojfjfbaaGreatDoor
namespace Go.Proofs.YtmpklplojfjfbaaGreatDoor
open Go.RowKit Go.Lib





theorem lvl_up {l : List D8} {h lev : Nat} (hl : l.length = 2 ^ h) (hle : lev + 1 ≤ h) : ∃ N, 2 ^ (h - (lev + 1)) = N ∧ 2 ^ (h - lev) = 2 * N ∧ (lvl l lev).length = 2 * N := by
  refine ⟨_, rfl, ?_, ?_⟩
  · rw [show h - lev = (h - (lev + 1)) + 1 by omega, Nat.pow_succ]; exact Nat.mul_comm _ _
  · rw [lvl_len hl lev (by omega), show h - lev = (h - (lev + 1)) + 1 by omega, Nat.pow_succ]; exact Nat.mul_comm _ _
set_option maxRecDepth 100000 in
set_option maxHeartbeats 4000000 in
theorem node_any (A : Option Addr) (n c h : Nat) (l : List D8) (hok : ∀ d ∈ l, d.ok) (hn : n = 2 ^ h) (hh : h ≤ 8) :
    ∀ (lev L k : Nat) (w : World), L = lev → lev ≤ h → k < 2 ^ (h - lev) → Rd w w.heap.size 8 A n (flatD l) →
    Calls Tryz.prog 64 #[.slice A n c, .int .i64 (L : Int), .int .i64 (k : Int)] w fun e w' => e = .returned (.agg #[.int .u8 (((lvl l lev).getD k D8.zero).x0 : Int), .int .u8 (((lvl l lev).getD k D8.zero).x1 : Int), .int .u8 (((lvl l lev).getD k D8.zero).x2 : Int), .int .u8 (((lvl l lev).getD k D8.zero).x3 : Int), .int .u8 (((lvl l lev).getD k D8.zero).x4 : Int), .int .u8 (((lvl l lev).getD k D8.zero).x5 : Int), .int .u8 (((lvl l lev).getD k D8.zero).x6 : Int), .int .u8 (((lvl l lev).getD k D8.zero).x7 : Int)]) ∧ Below w.heap.size w w' := by
  intro lev
  induction lev with
  | zero =>
    intro L k w hL _ hk hr
    subst hL
    have hkn : k < n := by rw [hn]; simpa using hk
    have HX0 : Hid ((w.alloc (.cells #[.int .u8 0, .int .u8 0, .int .u8 0, .int .u8 0, .int .u8 0, .int .u8 0, .int .u8 0, .int .u8 0] 22)).heap[w.heap.size]? = some (.cells #[.int .u8 0, .int .u8 0, .int .u8 0, .int .u8 0, .int .u8 0, .int .u8 0, .int .u8 0, .int .u8 0] 22 (0, 0))) := heap_alloc_new w _
    have Hw0 := Lib.hid (h_one w (.cells #[.int .u8 0, .int .u8 0, .int .u8 0, .int .u8 0, .int .u8 0, .int .u8 0, .int .u8 0, .int .u8 0] 22))
    have Hl := Lib.hid hr.dlenD
    have hd1 : decide ((k : Int) < (n : Int)) = true := decide_eq_true (by omega)
    have hki : (k : Int) < (n : Int) := by omega
    have hbA := (hr.below Hw0.out (Nat.le_refl _)).di8 hkn
    obtain ⟨bb, o, rfl, hbB, y0, y1, y2, y3, y4, y5, y6, y7⟩ := hbA
    have Hlow := Lib.hid (lvl0 l (i := k) (by rw [Hl.out]; exact hkn))
    have Hq := Lib.hid (getD_ok hok k)
    generalize l.getD k D8.zero = q at *
    generalize (lvl l 0).getD k D8.zero = dd at *
    have hbw : bb < (w.alloc (.cells #[.int .u8 0, .int .u8 0, .int .u8 0, .int .u8 0, .int .u8 0, .int .u8 0, .int .u8 0, .int .u8 0] 22)).heap.size := by have := Hw0.out.size; omega
    clear hr hk hok hn
    go_enter Tryz.func64, Tryz.ntmps64
    go_upto_region 1 with fail
    generalize w.alloc (.cells #[.int .u8 0, .int .u8 0, .int .u8 0, .int .u8 0, .int .u8 0, .int .u8 0, .int .u8 0, .int .u8 0] 22) = v0 at *
    go_wp2_with fail
    refine (lowr_any q v0 Hq.out).mono ?_
    rintro e v1 ⟨rfl, hb⟩
    rw [← Hlow.out]
    have Hbx := Lib.hid (block_below HX0.out hb (block_lt HX0.out)); have Hbw := Lib.hid (Hw0.out.trans (hb.mono Hw0.out.size))
    clear hb y0 y1 y2 y3 y4 y5 y6 y7
    obtain ⟨zf, r0, r1, r2, r3, r4, r5, r6, r7⟩ := free8 Hbx.out
    go_wp2
    clear zf r0 r1 r2 r3 r4 r5 r6 r7
    have h8 := set8 Hbx.out (.int .u8 (dd.x0 : Int)) (.int .u8 (dd.x1 : Int)) (.int .u8 (dd.x2 : Int)) (.int .u8 (dd.x3 : Int)) (.int .u8 (dd.x4 : Int)) (.int .u8 (dd.x5 : Int)) (.int .u8 (dd.x6 : Int)) (.int .u8 (dd.x7 : Int))
    have hg8 := grown_set8 v1 (w.heap.size) (.int .u8 (dd.x0 : Int)) (.int .u8 (dd.x1 : Int)) (.int .u8 (dd.x2 : Int)) (.int .u8 (dd.x3 : Int)) (.int .u8 (dd.x4 : Int)) (.int .u8 (dd.x5 : Int)) (.int .u8 (dd.x6 : Int)) (.int .u8 (dd.x7 : Int))
    generalize ((((((((v1.setCell ⟨w.heap.size, 0, none⟩ (.int .u8 (dd.x0 : Int))).setCell ⟨w.heap.size, 1, none⟩ (.int .u8 (dd.x1 : Int))).setCell ⟨w.heap.size, 2, none⟩ (.int .u8 (dd.x2 : Int))).setCell ⟨w.heap.size, 3, none⟩ (.int .u8 (dd.x3 : Int))).setCell ⟨w.heap.size, 4, none⟩ (.int .u8 (dd.x4 : Int))).setCell ⟨w.heap.size, 5, none⟩ (.int .u8 (dd.x5 : Int))).setCell ⟨w.heap.size, 6, none⟩ (.int .u8 (dd.x6 : Int))).setCell ⟨w.heap.size, 7, none⟩ (.int .u8 (dd.x7 : Int))) = w10 at *
    obtain ⟨zf, r0, r1, r2, r3, r4, r5, r6, r7⟩ := free8 h8
    have Hb2 := Lib.hid (Hbw.out.grown hg8 Hbw.out.size (fun k hk => by injection hk with hk; omega))
    clear h8 hg8
    refine bodyPost_ret (v := .agg #[.int .u8 (dd.x0 : Int), .int .u8 (dd.x1 : Int), .int .u8 (dd.x2 : Int), .int .u8 (dd.x3 : Int), .int .u8 (dd.x4 : Int), .int .u8 (dd.x5 : Int), .int .u8 (dd.x6 : Int), .int .u8 (dd.x7 : Int)]) (by simp [results, Tryz.results64, go_sem, r0, r1, r2, r3, r4, r5, r6, r7]) rfl ⟨rfl, Hb2.out⟩
  | succ lev ih =>
    intro L k w hL hle hk hr
    have HX0 : Hid ((w.alloc (.cells #[.int .u8 0, .int .u8 0, .int .u8 0, .int .u8 0, .int .u8 0, .int .u8 0, .int .u8 0, .int .u8 0] 22)).heap[w.heap.size]? = some (.cells #[.int .u8 0, .int .u8 0, .int .u8 0, .int .u8 0, .int .u8 0, .int .u8 0, .int .u8 0, .int .u8 0] 22 (0, 0))) := heap_alloc_new w _
    have Hw0 := Lib.hid (h_one w (.cells #[.int .u8 0, .int .u8 0, .int .u8 0, .int .u8 0, .int .u8 0, .int .u8 0, .int .u8 0, .int .u8 0] 22))
    have hlen : l.length = 2 ^ h := by rw [hr.dlenD, hn]
    obtain ⟨N, e1, e2, e3⟩ := lvl_up hlen hle
    have hN : 2 * N ≤ 256 := by
      rw [← e2]
      exact Nat.le_trans (Nat.pow_le_pow_right (by decide) (show h - lev ≤ 8 by omega)) (by decide)
    rw [e1] at hk
    obtain ⟨j, hj⟩ : ∃ j, j = 2 * k := ⟨_, rfl⟩
    obtain ⟨j1, hj1⟩ : ∃ j, j = 2 * k + 1 := ⟨_, rfl⟩
    have HI : Hid (∀ (u : World) (x : Nat), Below w.heap.size w u → x < 2 * N → Calls Tryz.prog 64 #[.slice A n c, .int .i64 (lev : Int), .int .i64 (x : Int)] u fun e w' => e = .returned (.agg #[.int .u8 (((lvl l lev).getD x D8.zero).x0 : Int), .int .u8 (((lvl l lev).getD x D8.zero).x1 : Int), .int .u8 (((lvl l lev).getD x D8.zero).x2 : Int), .int .u8 (((lvl l lev).getD x D8.zero).x3 : Int), .int .u8 (((lvl l lev).getD x D8.zero).x4 : Int), .int .u8 (((lvl l lev).getD x D8.zero).x5 : Int), .int .u8 (((lvl l lev).getD x D8.zero).x6 : Int), .int .u8 (((lvl l lev).getD x D8.zero).x7 : Int)]) ∧ Below u.heap.size u w') := Lib.hid fun u x hu hx => ih lev x u rfl (by omega) (by rw [e2]; exact hx) ((hr.below hu (Nat.le_refl _)).more hu.size)
    have Hup := Lib.hid (lvl_getD l lev k (by rw [e3]; omega))
    have Hq1 := Lib.hid (getD_ok (lvl_ok l lev) j); have Hq2 := Lib.hid (getD_ok (lvl_ok l lev) j1)
    rw [← hj1, ← hj] at Hup
    have HI1 := Lib.hid (fun (u : World) (hu : Below w.heap.size w u) => HI.out u j hu (by omega)); have HI2 := Lib.hid (fun (u : World) (hu : Below w.heap.size w u) => HI.out u j1 hu (by omega))
    have hwl : wrap64 ((L : Int) - 1) = (lev : Int) := by simp only [wrap64]; omega
    have hwl2 : IntKind.i64.wrap ((L : Int) - 1) = (lev : Int) := by rw [IntKind.wrap_i64]; omega
    have hwj : wrap64 (2 * (k : Int)) = (j : Int) := by simp only [wrap64]; omega
    have hwj2 : IntKind.i64.wrap (2 * (k : Int)) = (j : Int) := by rw [IntKind.wrap_i64]; omega
    have hwk : wrap64 ((j : Int) + 1) = (j1 : Int) := by simp only [wrap64]; omega
    have hwk2 : IntKind.i64.wrap ((j : Int) + 1) = (j1 : Int) := by rw [IntKind.wrap_i64]; omega
    have hz : ((L : Int) == 0) = false := by simp; omega
    have hz2 : decide ((L : Int) = 0) = false := decide_eq_false (by omega)
    have hz3 : decide (L = 0) = false := decide_eq_false (by omega)
    generalize (lvl l lev).getD j D8.zero = q1 at *
    generalize (lvl l lev).getD j1 D8.zero = q2 at *
    generalize (lvl l (lev + 1)).getD k D8.zero = dd at *
    clear HI e1 e2 e3 hj hj1 hL hlen hr ih hok hn
    go_enter Tryz.func64, Tryz.ntmps64
    go_upto_region 1 with fail
    generalize w.alloc (.cells #[.int .u8 0, .int .u8 0, .int .u8 0, .int .u8 0, .int .u8 0, .int .u8 0, .int .u8 0, .int .u8 0] 22) = v0 at *
    go_wp2_with fail
    refine (HI1.out v0 Hw0.out).mono ?_
    rintro e v1 ⟨rfl, hb⟩
    have HX1 := Lib.hid (block_below HX0.out hb (block_lt HX0.out)); have Hw1 := Lib.hid (Hw0.out.trans (hb.mono Hw0.out.size))
    clear hb
    go_wp2_with fail
    refine (HI2.out v1 Hw1.out).mono ?_
    rintro e v2 ⟨rfl, hb⟩
    have HX2 := Lib.hid (block_below HX1.out hb (block_lt HX1.out)); have Hw2 := Lib.hid (Hw1.out.trans (hb.mono Hw1.out.size))
    clear hb
    go_wp2_with fail
    refine (rtwo_any q1 q2 v2 Hq1.out Hq2.out).mono ?_
    rintro e v3 ⟨rfl, hb⟩
    rw [← Hup.out]
    have Hbx := Lib.hid (block_below HX2.out hb (block_lt HX2.out)); have Hbw := Lib.hid (Hw2.out.trans (hb.mono Hw2.out.size))
    clear hb
    obtain ⟨zf, r0, r1, r2, r3, r4, r5, r6, r7⟩ := free8 Hbx.out
    go_wp2
    clear zf r0 r1 r2 r3 r4 r5 r6 r7
    have h8 := set8 Hbx.out (.int .u8 (dd.x0 : Int)) (.int .u8 (dd.x1 : Int)) (.int .u8 (dd.x2 : Int)) (.int .u8 (dd.x3 : Int)) (.int .u8 (dd.x4 : Int)) (.int .u8 (dd.x5 : Int)) (.int .u8 (dd.x6 : Int)) (.int .u8 (dd.x7 : Int))
    have hg8 := grown_set8 v3 (w.heap.size) (.int .u8 (dd.x0 : Int)) (.int .u8 (dd.x1 : Int)) (.int .u8 (dd.x2 : Int)) (.int .u8 (dd.x3 : Int)) (.int .u8 (dd.x4 : Int)) (.int .u8 (dd.x5 : Int)) (.int .u8 (dd.x6 : Int)) (.int .u8 (dd.x7 : Int))
    generalize ((((((((v3.setCell ⟨w.heap.size, 0, none⟩ (.int .u8 (dd.x0 : Int))).setCell ⟨w.heap.size, 1, none⟩ (.int .u8 (dd.x1 : Int))).setCell ⟨w.heap.size, 2, none⟩ (.int .u8 (dd.x2 : Int))).setCell ⟨w.heap.size, 3, none⟩ (.int .u8 (dd.x3 : Int))).setCell ⟨w.heap.size, 4, none⟩ (.int .u8 (dd.x4 : Int))).setCell ⟨w.heap.size, 5, none⟩ (.int .u8 (dd.x5 : Int))).setCell ⟨w.heap.size, 6, none⟩ (.int .u8 (dd.x6 : Int))).setCell ⟨w.heap.size, 7, none⟩ (.int .u8 (dd.x7 : Int))) = w10 at *
    obtain ⟨zf, r0, r1, r2, r3, r4, r5, r6, r7⟩ := free8 h8
    have Hb2 := Lib.hid (Hbw.out.grown hg8 Hbw.out.size (fun k hk => by injection hk with hk; omega))
    clear h8 hg8
    refine bodyPost_ret (v := .agg #[.int .u8 (dd.x0 : Int), .int .u8 (dd.x1 : Int), .int .u8 (dd.x2 : Int), .int .u8 (dd.x3 : Int), .int .u8 (dd.x4 : Int), .int .u8 (dd.x5 : Int), .int .u8 (dd.x6 : Int), .int .u8 (dd.x7 : Int)]) (by simp [results, Tryz.results64, go_sem, r0, r1, r2, r3, r4, r5, r6, r7]) rfl ⟨rfl, Hb2.out⟩
set_option maxRecDepth 100000 in
set_option maxHeartbeats 4000000 in
theorem rootr_any (A : Option Addr) (n c h : Nat) (l : List D8) (w : World) (hr : Rd w w.heap.size 8 A n (flatD l)) (hok : ∀ d ∈ l, d.ok) (hn : n = 2 ^ h) (hh : h ≤ 8) :
    Calls Tryz.prog 32 #[.slice A n c] w fun e w' => e = .returned (.tuple #[.agg #[.int .u8 ((rootD l h).x0 : Int), .int .u8 ((rootD l h).x1 : Int), .int .u8 ((rootD l h).x2 : Int), .int .u8 ((rootD l h).x3 : Int), .int .u8 ((rootD l h).x4 : Int), .int .u8 ((rootD l h).x5 : Int), .int .u8 ((rootD l h).x6 : Int), .int .u8 ((rootD l h).x7 : Int)], .int .i64 0]) ∧ Below w.heap.size w w' := by
  have HX0 : Hid ((w.alloc (.cells #[.int .u8 0, .int .u8 0, .int .u8 0, .int .u8 0, .int .u8 0, .int .u8 0, .int .u8 0, .int .u8 0] 22)).heap[w.heap.size]? = some (.cells #[.int .u8 0, .int .u8 0, .int .u8 0, .int .u8 0, .int .u8 0, .int .u8 0, .int .u8 0, .int .u8 0] 22 (0, 0))) := heap_alloc_new w _
  have Hw0 := Lib.hid (h_one w (.cells #[.int .u8 0, .int .u8 0, .int .u8 0, .int .u8 0, .int .u8 0, .int .u8 0, .int .u8 0, .int .u8 0] 22))
  have HH := Lib.hid (fun u => rheight_any h n u hh hn); have HNM := Lib.hid (fun u => name_any h u hh)
  have HND := Lib.hid (fun (u : World) (hu : Below w.heap.size w u) => node_any A n c h l hok hn hh h h 0 u rfl (Nat.le_refl _) (by simp) ((hr.below hu (Nat.le_refl _)).more hu.size))
  have Hq := Lib.hid (getD_ok (lvl_ok l h) 0)
  have hres : rootD l h = hashWord ((lvl l h).getD 0 D8.zero) (wordB (rootW h)) := rfl
  have Hres := Lib.hid hres
  generalize (lvl l h).getD 0 D8.zero = q at *
  obtain ⟨dd, hdd⟩ : ∃ dd, dd = hashWord q (wordB (rootW h)) := ⟨_, rfl⟩
  have HWD := Lib.hid (fun u => rword_any q (rootW h) u Hq.out (by rw [rootW_size]; decide))
  rw [← hdd] at HWD Hres
  have d0 : decide ((h : Int) < 0) = false := decide_eq_false (by omega)
  clear hr hok hn hres hdd
  generalize rootW h = rw at *
  go_enter Tryz.func32, Tryz.ntmps32
  go_upto_region 1 with fail
  generalize w.alloc (.cells #[.int .u8 0, .int .u8 0, .int .u8 0, .int .u8 0, .int .u8 0, .int .u8 0, .int .u8 0, .int .u8 0] 22) = v0 at *
  go_wp2_with fail
  refine (HH.out v0).mono ?_
  rintro e v1 ⟨rfl, rfl⟩
  go_wp2_with fail
  refine (HND.out v1 Hw0.out).mono ?_
  rintro e v2 ⟨rfl, hb⟩
  have HX2 := Lib.hid (block_below HX0.out hb (block_lt HX0.out)); have Hw2 := Lib.hid (Hw0.out.trans (hb.mono Hw0.out.size))
  clear hb
  go_wp2_with fail
  refine (HNM.out v2).mono ?_
  rintro e v3 ⟨rfl, hb⟩
  have HX3 := Lib.hid (block_below HX2.out hb (block_lt HX2.out)); have Hw3 := Lib.hid (Hw2.out.trans (hb.mono Hw2.out.size))
  clear hb
  go_wp2_with fail
  refine (HWD.out v3).mono ?_
  rintro e v4 ⟨rfl, hb⟩
  have Hbx := Lib.hid (block_below HX3.out hb (block_lt HX3.out)); have Hbw := Lib.hid (Hw3.out.trans (hb.mono Hw3.out.size))
  clear hb
  obtain ⟨zf, r0, r1, r2, r3, r4, r5, r6, r7⟩ := free8 Hbx.out
  go_wp2
  clear zf r0 r1 r2 r3 r4 r5 r6 r7
  have h8 := set8 Hbx.out (.int .u8 (dd.x0 : Int)) (.int .u8 (dd.x1 : Int)) (.int .u8 (dd.x2 : Int)) (.int .u8 (dd.x3 : Int)) (.int .u8 (dd.x4 : Int)) (.int .u8 (dd.x5 : Int)) (.int .u8 (dd.x6 : Int)) (.int .u8 (dd.x7 : Int))
  have hg8 := grown_set8 v4 (w.heap.size) (.int .u8 (dd.x0 : Int)) (.int .u8 (dd.x1 : Int)) (.int .u8 (dd.x2 : Int)) (.int .u8 (dd.x3 : Int)) (.int .u8 (dd.x4 : Int)) (.int .u8 (dd.x5 : Int)) (.int .u8 (dd.x6 : Int)) (.int .u8 (dd.x7 : Int))
  generalize ((((((((v4.setCell ⟨w.heap.size, 0, none⟩ (.int .u8 (dd.x0 : Int))).setCell ⟨w.heap.size, 1, none⟩ (.int .u8 (dd.x1 : Int))).setCell ⟨w.heap.size, 2, none⟩ (.int .u8 (dd.x2 : Int))).setCell ⟨w.heap.size, 3, none⟩ (.int .u8 (dd.x3 : Int))).setCell ⟨w.heap.size, 4, none⟩ (.int .u8 (dd.x4 : Int))).setCell ⟨w.heap.size, 5, none⟩ (.int .u8 (dd.x5 : Int))).setCell ⟨w.heap.size, 6, none⟩ (.int .u8 (dd.x6 : Int))).setCell ⟨w.heap.size, 7, none⟩ (.int .u8 (dd.x7 : Int))) = w10 at *
  obtain ⟨zf, r0, r1, r2, r3, r4, r5, r6, r7⟩ := free8 h8
  have Hb2 := Lib.hid (Hbw.out.grown hg8 Hbw.out.size (fun k hk => by injection hk with hk; omega))
  clear h8 hg8
  refine bodyPost_ret (v := .tuple #[.agg #[.int .u8 (dd.x0 : Int), .int .u8 (dd.x1 : Int), .int .u8 (dd.x2 : Int), .int .u8 (dd.x3 : Int), .int .u8 (dd.x4 : Int), .int .u8 (dd.x5 : Int), .int .u8 (dd.x6 : Int), .int .u8 (dd.x7 : Int)], .int .i64 0]) (by simp [results, Tryz.results32, go_sem, r0, r1, r2, r3, r4, r5, r6, r7]) rfl ⟨by rw [Hres.out], Hb2.out⟩
end Go.Proofs.YtmpklplojfjfbaaGreatDoor
