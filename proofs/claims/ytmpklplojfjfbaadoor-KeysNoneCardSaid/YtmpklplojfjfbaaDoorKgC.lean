/- A ring cloned: the walks of maps.Clone and of Clone. Condition: none. -/
import Derived.Test.YtmpklplojfjfbaaDoorKgT
import Derived.Test.YtmpklplojfjfbaaDoorKeX
import Derived.Test.YtmpklplojfjfbaaDoorKeJ
import Derived.Test.YtmpklplojfjfbaaDoorJoinA
import Derived.Shelf.SlMaps.Clone
namespace Go.Proofs.YtmpklplojfjfbaaDoor
open Go.RowKit Go.Lib



set_option maxRecDepth 100000 in
set_option maxHeartbeats 2000000 in
theorem mcloneD_any (L : List D8) (b : Nat) (w : World) (h : PlacesD w b L) :
    Calls Tryd.prog 32 #[.map (some b)] w fun r w' => r = .returned (.map (some w.heap.size)) ∧ PlacesD w' w.heap.size L ∧ Below w.heap.size w w' := by
  obtain ⟨es, clock, hb, hes⟩ := h
  have hq := fun w => run_eql_map_nil_sl (P := Tryd.prog) w 51 _ _ (some b) Tryd.underlying51
  have Hes := Lib.hid hes
  clear hes
  go_enter Tryd.func32, Tryd.ntmps32
  go_wp2
  rw [run_callFunc_extern Tryd.func52 (by kernel_rfl) (by kernel_rfl) (by kernel_rfl) (e := Extern.MapsClone.clone) (by kernel_rfl), run_maps_clone_sl w 51 hb]
  simp only [Result.andThen]
  rw [Oper.upon_value]
  go_wp2
  rw [run_typeAssert_map_sl _ 51 20 _ _ _ Tryd.underlying51]
  simp only [Result.andThen]
  rw [Oper.upon_value]
  go_wp2
  go_ret
  exact ⟨rfl, ⟨es, clock, heap_alloc_new w _, Hes.out⟩, h_one w _⟩
set_option maxRecDepth 100000 in
set_option maxHeartbeats 4000000 in
theorem rclone_any {w : World} {B : Nat} {F : Nat → Prop} {T0 T1 br : Nat} {r : RingM} (a : RingAt w B F T0 T1 br r) :
    Calls Tryd.prog 14 #[.pointer (some ⟨br, 0, none⟩)] w fun e w' => ∃ F' br' mb' pt, e = .returned (.pointer (some ⟨br', 0, none⟩)) ∧ LedAt w' w.heap.size F' br' mb' r.secret r.h pt r.led ∧ Below w.heap.size w w' := by
  obtain ⟨mb, bt, l, ht⟩ := a.led
  obtain ⟨A, c, hb, ho, _⟩ := l.cells
  have hpw := pow_le8 a.ok.2.1
  have hn : r.led.length ≤ 1000000 := by have := a.ok.2.2.2.2; omega
  have HT := Lib.hid ht; have HP := Lib.hid l.map; have HN := Lib.hid l.nodup; have HOk := Lib.hid l.ok; have HO := Lib.hid (Rd.of_own ho)
  have hS : w.drew.heap[br]? = some (.cells (ringC r.secret r.h (.pointer (some ⟨bt, 0, none⟩)) (.slice A r.led.length c) mb) 54 (0, 0)) := hb
  have hbl := block_lt hb
  clear a l ht ho hpw hb
  generalize r.secret = s at *
  generalize r.h = h at *
  generalize r.led = L at *
  go_enter Tryd.func14, Tryd.ntmps14
  go_upto_region 3 with fail
  refine wp_region_held_drew (S := fun w' => w'.heap[br]? = some (.cells (ringC s h (.pointer (some ⟨bt, 0, none⟩)) (.slice A L.length c) mb) 54 (0, 0))) (by kernel_rfl) hS (fun hHeld => ?_)
  rw [show Array.replicate _ false = (#[false, false, false, false, false, false, false, false, false, false, false, false, false, false, false, false, false, false, false, false, false, false, false, false, false, false] : Array Bool) from rfl]
  refine takeH 0 (some 5) (v := ?_) rfl (by kernel_rfl) (by kernel_rfl) (by kernel_rfl) (by kernel_rfl) (fun _ _ _ h => h) (Or.inl ⟨by kernel_rfl, ?hy⟩) (by assumption) ?_
  case hy =>
    intro w' hSw
    clear hSw
    first
      | (go_simp; done)
      | (go_simp; with_reducible rfl)
  simp only [Act.put, List.setIfInBounds_toArray, List.set_cons_zero, List.set_cons_succ]
  refine takeH 1 (some 6) (v := ?_) rfl (by kernel_rfl) (by kernel_rfl) (by kernel_rfl) (by kernel_rfl) (fun _ _ _ h => h) (Or.inl ⟨by kernel_rfl, ?hy⟩) (by assumption) ?_
  case hy =>
    intro w' hSw
    clear hSw
    first
      | (go_simp; done)
      | (go_simp; with_reducible rfl)
  simp only [Act.put, List.setIfInBounds_toArray, List.set_cons_zero, List.set_cons_succ]
  refine takeH 2 (some 7) (v := ?_) rfl (by kernel_rfl) (by kernel_rfl) (by kernel_rfl) (by kernel_rfl) (fun _ _ _ h => h) (Or.inl ⟨by kernel_rfl, ?hy⟩) (by assumption) ?_
  case hy =>
    intro w' hSw
    clear hSw
    first
      | (go_simp; done)
      | (go_simp; with_reducible rfl)
  simp only [Act.put, List.setIfInBounds_toArray, List.set_cons_zero, List.set_cons_succ]
  refine takeH 3 (some 8) (v := .agg #[.int .u8 (s.x0 : Int), .int .u8 (s.x1 : Int), .int .u8 (s.x2 : Int), .int .u8 (s.x3 : Int), .int .u8 (s.x4 : Int), .int .u8 (s.x5 : Int), .int .u8 (s.x6 : Int), .int .u8 (s.x7 : Int)]) rfl (by kernel_rfl) (by kernel_rfl) (by kernel_rfl) (by kernel_rfl) (fun _ _ _ h => h) (Or.inl ⟨by kernel_rfl, ?hy⟩) (by assumption) ?_
  case hy =>
    intro w' hSw
    try dsimp only at hSw
    simp [execOp, Act.eval, load_ring hSw, Result.andThen]
  simp only [Act.put, List.setIfInBounds_toArray, List.set_cons_zero, List.set_cons_succ]
  refine takeH 4 (some 9) (v := ?_) rfl (by kernel_rfl) (by kernel_rfl) (by kernel_rfl) (by kernel_rfl) (fun _ _ _ h => h) (Or.inl ⟨by kernel_rfl, ?hy⟩) (by assumption) ?_
  case hy =>
    intro w' hSw
    clear hSw
    first
      | (go_simp; done)
      | (go_simp; with_reducible rfl)
  simp only [Act.put, List.setIfInBounds_toArray, List.set_cons_zero, List.set_cons_succ]
  refine takeH 5 (some 10) (v := ?_) rfl (by kernel_rfl) (by kernel_rfl) (by kernel_rfl) (by kernel_rfl) (fun _ _ _ h => h) (Or.inl ⟨by kernel_rfl, ?hy⟩) (by assumption) ?_
  case hy =>
    intro w' hSw
    clear hSw
    first
      | (go_simp; done)
      | (go_simp; with_reducible rfl)
  simp only [Act.put, List.setIfInBounds_toArray, List.set_cons_zero, List.set_cons_succ]
  refine takeH 6 (some 11) (v := ?_) rfl (by kernel_rfl) (by kernel_rfl) (by kernel_rfl) (by kernel_rfl) (fun _ _ _ h => h) (Or.inl ⟨by kernel_rfl, ?hy⟩) (by assumption) ?_
  case hy =>
    intro w' hSw
    clear hSw
    first
      | (go_simp; done)
      | (go_simp; with_reducible rfl)
  simp only [Act.put, List.setIfInBounds_toArray, List.set_cons_zero, List.set_cons_succ]
  refine takeH 7 (some 12) (v := ?_) rfl (by kernel_rfl) (by kernel_rfl) (by kernel_rfl) (by kernel_rfl) (fun _ _ _ h => h) (Or.inl ⟨by kernel_rfl, ?hy⟩) (by assumption) ?_
  case hy =>
    intro w' hSw
    try dsimp only at hSw
    obtain ⟨yf, y0, y1, y2, y3, y4, y5, y6, y7, y8, y9, y10, y11⟩ := freeR hSw
    clear yf y0 y1 y2 y3 y4 y5 y6 y7 hSw
    first
      | (go_simp; done)
      | (go_simp; with_reducible rfl)
  simp only [Act.put, List.setIfInBounds_toArray, List.set_cons_zero, List.set_cons_succ]
  refine takeH 8 (some 13) (v := ?_) rfl (by kernel_rfl) (by kernel_rfl) (by kernel_rfl) (by kernel_rfl) (fun _ _ _ h => h) (Or.inl ⟨by kernel_rfl, ?hy⟩) (by assumption) ?_
  case hy =>
    intro w' hSw
    clear hSw
    first
      | (go_simp; done)
      | (go_simp; with_reducible rfl)
  simp only [Act.put, List.setIfInBounds_toArray, List.set_cons_zero, List.set_cons_succ]
  refine takeH 9 (some 14) (v := ?_) rfl (by kernel_rfl) (by kernel_rfl) (by kernel_rfl) (by kernel_rfl) (fun _ _ _ h => h) (Or.inl ⟨by kernel_rfl, ?hy⟩) (by assumption) ?_
  case hy =>
    intro w' hSw
    clear hSw
    first
      | (go_simp; done)
      | (go_simp; with_reducible rfl)
  simp only [Act.put, List.setIfInBounds_toArray, List.set_cons_zero, List.set_cons_succ]
  refine takeH 10 (some 15) (v := ?_) rfl (by kernel_rfl) (by kernel_rfl) (by kernel_rfl) (by kernel_rfl) (fun _ _ _ h => h) (Or.inl ⟨by kernel_rfl, ?hy⟩) (by assumption) ?_
  case hy =>
    intro w' hSw
    clear hSw
    first
      | (go_simp; done)
      | (go_simp; with_reducible rfl)
  simp only [Act.put, List.setIfInBounds_toArray, List.set_cons_zero, List.set_cons_succ]
  refine takeH 11 (some 16) (v := ?_) rfl (by kernel_rfl) (by kernel_rfl) (by kernel_rfl) (by kernel_rfl) (fun _ _ _ h => h) (Or.inl ⟨by kernel_rfl, ?hy⟩) (by assumption) ?_
  case hy =>
    intro w' hSw
    try dsimp only at hSw
    obtain ⟨yf, y0, y1, y2, y3, y4, y5, y6, y7, y8, y9, y10, y11⟩ := freeR hSw
    clear yf y0 y1 y2 y3 y4 y5 y6 y7 hSw
    first
      | (go_simp; done)
      | (go_simp; with_reducible rfl)
  simp only [Act.put, List.setIfInBounds_toArray, List.set_cons_zero, List.set_cons_succ]
  refine takeH 13 (some 18) (v := ?_) rfl (by kernel_rfl) (by kernel_rfl) (by kernel_rfl) (by kernel_rfl) (fun _ _ _ h => h) (Or.inl ⟨by kernel_rfl, ?hy⟩) (by assumption) ?_
  case hy =>
    intro w' hSw
    clear hSw
    first
      | (go_simp; done)
      | (go_simp; with_reducible rfl)
  simp only [Act.put, List.setIfInBounds_toArray, List.set_cons_zero, List.set_cons_succ]
  refine takeH 14 (some 19) (v := ?_) rfl (by kernel_rfl) (by kernel_rfl) (by kernel_rfl) (by kernel_rfl) (fun _ _ _ h => h) (Or.inl ⟨by kernel_rfl, ?hy⟩) (by assumption) ?_
  case hy =>
    intro w' hSw
    clear hSw
    first
      | (go_simp; done)
      | (go_simp; with_reducible rfl)
  simp only [Act.put, List.setIfInBounds_toArray, List.set_cons_zero, List.set_cons_succ]
  refine takeH 15 (some 20) (v := ?_) rfl (by kernel_rfl) (by kernel_rfl) (by kernel_rfl) (by kernel_rfl) (fun _ _ _ h => h) (Or.inl ⟨by kernel_rfl, ?hy⟩) (by assumption) ?_
  case hy =>
    intro w' hSw
    clear hSw
    first
      | (go_simp; done)
      | (go_simp; with_reducible rfl)
  simp only [Act.put, List.setIfInBounds_toArray, List.set_cons_zero, List.set_cons_succ]
  refine takeH 16 (some 21) (v := ?_) rfl (by kernel_rfl) (by kernel_rfl) (by kernel_rfl) (by kernel_rfl) (fun _ _ _ h => h) (Or.inl ⟨by kernel_rfl, ?hy⟩) (by assumption) ?_
  case hy =>
    intro w' hSw
    try dsimp only at hSw
    obtain ⟨yf, y0, y1, y2, y3, y4, y5, y6, y7, y8, y9, y10, y11⟩ := freeR hSw
    clear yf y0 y1 y2 y3 y4 y5 y6 y7 hSw
    first
      | (go_simp; done)
      | (go_simp; with_reducible rfl)
  simp only [Act.put, List.setIfInBounds_toArray, List.set_cons_zero, List.set_cons_succ]
  refine takeH 18 (some 23) (v := ?_) rfl (by kernel_rfl) (by kernel_rfl) (by kernel_rfl) (by kernel_rfl) (fun _ _ _ h => h) (Or.inl ⟨by kernel_rfl, ?hy⟩) (by assumption) ?_
  case hy =>
    intro w' hSw
    clear hSw
    first
      | (go_simp; done)
      | (go_simp; with_reducible rfl)
  simp only [Act.put, List.setIfInBounds_toArray, List.set_cons_zero, List.set_cons_succ]
  refine takeH 19 (some 24) (v := ?_) rfl (by kernel_rfl) (by kernel_rfl) (by kernel_rfl) (by kernel_rfl) (fun _ _ _ h => h) (Or.inl ⟨by kernel_rfl, ?hy⟩) (by assumption) ?_
  case hy =>
    intro w' hSw
    clear hSw
    first
      | (go_simp; done)
      | (go_simp; with_reducible rfl)
  simp only [Act.put, List.setIfInBounds_toArray, List.set_cons_zero, List.set_cons_succ]
  refine takeH 20 (some 25) (v := ?_) rfl (by kernel_rfl) (by kernel_rfl) (by kernel_rfl) (by kernel_rfl) (fun _ _ _ h => h) (Or.inl ⟨by kernel_rfl, ?hy⟩) (by assumption) ?_
  case hy =>
    intro w' hSw
    clear hSw
    first
      | (go_simp; done)
      | (go_simp; with_reducible rfl)
  simp only [Act.put, List.setIfInBounds_toArray, List.set_cons_zero, List.set_cons_succ]
  refine takeH 21 (some 26) (v := ?_) rfl (by kernel_rfl) (by kernel_rfl) (by kernel_rfl) (by kernel_rfl) (fun _ _ _ h => h) (Or.inl ⟨by kernel_rfl, ?hy⟩) (by assumption) ?_
  case hy =>
    intro w' hSw
    try dsimp only at hSw
    obtain ⟨yf, y0, y1, y2, y3, y4, y5, y6, y7, y8, y9, y10, y11⟩ := freeR hSw
    clear yf y0 y1 y2 y3 y4 y5 y6 y7 hSw
    first
      | (go_simp; done)
      | (go_simp; with_reducible rfl)
  simp only [Act.put, List.setIfInBounds_toArray, List.set_cons_zero, List.set_cons_succ]
  refine wpAnyH_ready (rs := [12]) (by kernel_rfl) (by simp) ?_
  refine AllReadyH.cons rfl (fun K hK => ?_) AllReadyH.nil
  rw [if_pos (by kernel_rfl)]
  go_simp
  refine (tclone_any T0 T1 bt h _ w.drew (HT.out.below (Below.refl _ _).drew)).mono ?_
  rintro e v1 ⟨bo, rfl, hb1⟩
  have hq1 := (Below.refl w.heap.size w).drew.trans hb1
  have hS1 := block_below (w := w.drew) hS hb1 hbl
  have Hq1 := Lib.hid hq1
  clear hb1 hq1
  refine hK.out _ _ hS1 (fun _ => ?_)
  clear hK K
  simp only [List.setIfInBounds_toArray, List.set_cons_zero, List.set_cons_succ]
  refine wpAnyH_ready (rs := [17]) (by kernel_rfl) (by simp) ?_
  refine AllReadyH.cons rfl (fun K hK => ?_) AllReadyH.nil
  rw [if_pos (by kernel_rfl)]
  go_simp
  refine (sdclone_any L A L.length c v1 ((HO.out.below Hq1.out (Nat.le_refl _)).more Hq1.out.size) hn).mono ?_
  rintro e v2 ⟨A2, c2, rfl, ho2, hb2⟩
  have hS2 := block_below hS1 hb2 (block_lt hS1)
  have HO2 := Lib.hid ho2
  have Hq2 := Lib.hid (Hq1.out.trans (hb2.mono Hq1.out.size))
  have Hs2 := Lib.hid hb2.size
  clear ho2 hb2
  refine hK.out _ _ hS2 (fun _ => ?_)
  clear hK K
  simp only [List.setIfInBounds_toArray, List.set_cons_zero, List.set_cons_succ]
  refine wpAnyH_ready (rs := [22]) (by kernel_rfl) (by simp) ?_
  refine AllReadyH.cons rfl (fun K hK => ?_) AllReadyH.nil
  rw [if_pos (by kernel_rfl)]
  go_simp
  refine (mcloneD_any L mb v2 (HP.out.same (Hq2.out.block mb HP.out.lt))).mono ?_
  rintro e v3 ⟨rfl, hp3, hb3⟩
  have hS3 := block_below hS2 hb3 (block_lt hS2)
  have HP3 := Lib.hid hp3
  have HO3 := Lib.hid (own_below HO2.out hb3)
  have Hq3 := Lib.hid (Hq2.out.trans (hb3.mono Hq2.out.size))
  have Hlt := Lib.hid hp3.lt
  clear hp3 hb3
  refine hK.out _ _ hS3 (fun _ => ?_)
  clear hK K
  simp only [List.setIfInBounds_toArray, List.set_cons_zero, List.set_cons_succ]
  refine takeH 23 (some 28) (v := ?_) rfl (by kernel_rfl) (by kernel_rfl) (by kernel_rfl) (by kernel_rfl) (fun _ _ _ h => h) (Or.inl ⟨by kernel_rfl, ?hy⟩) (by assumption) ?_
  case hy =>
    intro w' hSw
    clear hSw
    first
      | (go_simp; done)
      | (go_simp; with_reducible rfl)
  simp only [Act.put, List.setIfInBounds_toArray, List.set_cons_zero, List.set_cons_succ]
  refine wpAnyH_ready (rs := [24]) (by kernel_rfl) (by simp) ?_
  refine AllReadyH.cons rfl (fun K hK => ?_) AllReadyH.nil
  rw [if_pos (by kernel_rfl)]
  go_simp
  have HB4 : Hid ((v3.alloc (.cells #[.int .u8 (s.x0 : Int), .int .u8 (s.x1 : Int), .int .u8 (s.x2 : Int), .int .u8 (s.x3 : Int), .int .u8 (s.x4 : Int), .int .u8 (s.x5 : Int), .int .u8 (s.x6 : Int), .int .u8 (s.x7 : Int), .int .i64 (h : Int), .pointer (some ⟨bo, 0, none⟩), .slice A2 L.length c2, .map (some v2.heap.size)] 54)).heap[v3.heap.size]? = some (.cells (ringC s h (.pointer (some ⟨bo, 0, none⟩)) (.slice A2 L.length c2) v2.heap.size) 54 (0, 0))) := heap_alloc_new v3 _
  have HO4 := Lib.hid (HO3.out.alloc (.cells #[.int .u8 (s.x0 : Int), .int .u8 (s.x1 : Int), .int .u8 (s.x2 : Int), .int .u8 (s.x3 : Int), .int .u8 (s.x4 : Int), .int .u8 (s.x5 : Int), .int .u8 (s.x6 : Int), .int .u8 (s.x7 : Int), .int .i64 (h : Int), .pointer (some ⟨bo, 0, none⟩), .slice A2 L.length c2, .map (some v2.heap.size)] 54)); have HP4 := Lib.hid (HP3.out.same (Below.heap_alloc v3 (.cells #[.int .u8 (s.x0 : Int), .int .u8 (s.x1 : Int), .int .u8 (s.x2 : Int), .int .u8 (s.x3 : Int), .int .u8 (s.x4 : Int), .int .u8 (s.x5 : Int), .int .u8 (s.x6 : Int), .int .u8 (s.x7 : Int), .int .i64 (h : Int), .pointer (some ⟨bo, 0, none⟩), .slice A2 L.length c2, .map (some v2.heap.size)] 54) _ HP3.out.lt))
  have Hq4 := Lib.hid (Hq3.out.alloc Hq3.out.size (.cells #[.int .u8 (s.x0 : Int), .int .u8 (s.x1 : Int), .int .u8 (s.x2 : Int), .int .u8 (s.x3 : Int), .int .u8 (s.x4 : Int), .int .u8 (s.x5 : Int), .int .u8 (s.x6 : Int), .int .u8 (s.x7 : Int), .int .i64 (h : Int), .pointer (some ⟨bo, 0, none⟩), .slice A2 L.length c2, .map (some v2.heap.size)] 54))
  have hS4 := block_alloc hS3 (.cells #[.int .u8 (s.x0 : Int), .int .u8 (s.x1 : Int), .int .u8 (s.x2 : Int), .int .u8 (s.x3 : Int), .int .u8 (s.x4 : Int), .int .u8 (s.x5 : Int), .int .u8 (s.x6 : Int), .int .u8 (s.x7 : Int), .int .i64 (h : Int), .pointer (some ⟨bo, 0, none⟩), .slice A2 L.length c2, .map (some v2.heap.size)] 54)
  have hs4 : (v3.alloc (.cells #[.int .u8 (s.x0 : Int), .int .u8 (s.x1 : Int), .int .u8 (s.x2 : Int), .int .u8 (s.x3 : Int), .int .u8 (s.x4 : Int), .int .u8 (s.x5 : Int), .int .u8 (s.x6 : Int), .int .u8 (s.x7 : Int), .int .i64 (h : Int), .pointer (some ⟨bo, 0, none⟩), .slice A2 L.length c2, .map (some v2.heap.size)] 54)).heap.size = v3.heap.size + 1 := by simp
  refine hK.out _ _ hS4 (fun _ => ?_)
  clear hK K
  simp only [List.setIfInBounds_toArray, List.set_cons_zero, List.set_cons_succ]
  refine takeH 25 (some 2) (v := ?_) rfl (by kernel_rfl) (by kernel_rfl) (by kernel_rfl) (by kernel_rfl) (fun _ _ _ h => h) (Or.inl ⟨by kernel_rfl, ?hy⟩) (by assumption) ?_
  case hy =>
    intro w' hSw
    clear hSw
    first
      | (go_simp; done)
      | (go_simp; with_reducible rfl)
  simp only [Act.put, List.setIfInBounds_toArray, List.set_cons_zero, List.set_cons_succ]
  refine wpAnyH_done (by kernel_rfl) ?_ _
  go_wp2
  go_ret
  have h1 := Hq1.out.size
  have h2 := Hq2.out.size
  have h3 := Hlt.out
  have h4 := Hs2.out
  refine ⟨fun k => w.heap.size ≤ k ∧ k < (v3.alloc (.cells #[.int .u8 (s.x0 : Int), .int .u8 (s.x1 : Int), .int .u8 (s.x2 : Int), .int .u8 (s.x3 : Int), .int .u8 (s.x4 : Int), .int .u8 (s.x5 : Int), .int .u8 (s.x6 : Int), .int .u8 (s.x7 : Int), .int .i64 (h : Int), .pointer (some ⟨bo, 0, none⟩), .slice A2 L.length c2, .map (some v2.heap.size)] 54)).heap.size, v3.heap.size, v2.heap.size, .pointer (some ⟨bo, 0, none⟩), rfl, ⟨⟨A2, c2, HB4.out, own_down HO4.out h1, fun g hg => ⟨by have := (HO4.out.lt g hg).1; omega, (HO4.out.lt g hg).2⟩⟩, HP4.out, HN.out, HOk.out, ⟨by omega, by omega⟩, ⟨by omega, by omega⟩, fun k hk => hk⟩, Hq4.out⟩
end Go.Proofs.YtmpklplojfjfbaaDoor
