/- The walk of NotaryNil: a nil book, a nil verifier and a nil signer. Condition: bounds on the list. -/
import Derived.Test.YtepdinfopcohiaaNpN
namespace Go.Proofs.Ytepdinfopcohiaa
open Go.RowKit Go.Lib


set_option maxRecDepth 100000 in
set_option maxHeartbeats 8000000 in
theorem nil_any (ws : List Nat) (Aw : Option Addr) (nw cw m : Nat) (w : World) (hr : Rd w w.heap.size 1 Aw nw (bvN ws)) (hws : ∀ y ∈ ws, y < 256) (hm : m < 256) :
    Calls Try.prog 9 #[.slice Aw nw cw, .int .u8 (m : Int)] w fun r w' => r = .returned (.bool true) ∧ Below w.heap.size w w' := by
  have Hb0 := Lib.hid (Below.refl w.heap.size w)
  by_cases hbig : 8 < nw
  · have hd0 : decide ((8 : Int) < (nw : Int)) = true := decide_eq_true (by omega)
    clear hbig hr hws
    go_enter Try.func9, Try.ntmps9
    go_wp2_with (go_at_call 10; refine (told_any w).mono ?_; rintro r9 v9 ⟨rfl, hb9⟩; have Hv9 := Lib.hid (Hb0.out.trans (hb9.mono Hb0.out.size)); clear hb9)
    go_ret
    exact ⟨rfl, Hv9.out⟩
  have hd0 : decide ((8 : Int) < (nw : Int)) = false := decide_eq_false (by omega)
  have hn : nw ≤ 8 := by omega
  have Hlw := Lib.hid hr.blenN
  have Hr := Lib.hid hr; have Hws := Lib.hid hws
  have hna := fun k => nil_signN k
  have hme := fun k => meth_signN k
  have hke := fun k => meth_keyN k
  rw [types_many] at hna hme hke
  have hneq := neq_dig
  have hself : eqI [((D8.of 3).x0 : Int), ((D8.of 3).x1 : Int), ((D8.of 3).x2 : Int), ((D8.of 3).x3 : Int), ((D8.of 3).x4 : Int), ((D8.of 3).x5 : Int), ((D8.of 3).x6 : Int), ((D8.of 3).x7 : Int)] [((D8.of 3).x0 : Int), ((D8.of 3).x1 : Int), ((D8.of 3).x2 : Int), ((D8.of 3).x3 : Int), ((D8.of 3).x4 : Int), ((D8.of 3).x5 : Int), ((D8.of 3).x6 : Int), ((D8.of 3).x7 : Int)] = true := by decide
  obtain ⟨iD, hi, hz0, hz1, hz2⟩ := info_parts info_Di
  have HID := Lib.hid (And.intro hi (And.intro hz0 (And.intro hz1 hz2))); clear hi hz0 hz1 hz2
  obtain ⟨iB, hi, hz0, hz1, hz2⟩ := info_parts info_bytes
  have HIB := Lib.hid (And.intro hi (And.intro hz0 (And.intro hz1 hz2))); clear hi hz0 hz1 hz2
  have HuD := Lib.hid Try.underlying48; have HuB := Lib.hid Try.underlying65
  have hwm : IntKind.u64.wrap (m : Int) = (m : Int) := by rw [IntKind.wrap_u64]; omega
  clear hr hws hbig
  go_enter Try.func9, Try.ntmps9
  go_wp2_with fail
  refine (digest_any 3 w (by omega)).mono ?_
  rintro r w1 ⟨rfl, hb⟩
  have Hb1 := Lib.hid (Hb0.out.trans (hb.mono Hb0.out.size))
  clear hb
  go_wp2_with fail
  refine (signerN_any (D8.of 3) w1).mono ?_
  rintro r w2 ⟨rfl, hb⟩
  have Hb2 := Lib.hid (Hb1.out.trans (hb.mono Hb1.out.size))
  clear hb
  go_wp2_with fail
  refine (keyN_any (D8.of 3) w2).mono ?_
  rintro r w3 ⟨rfl, hb⟩
  have Hb3 := Lib.hid (Hb2.out.trans (hb.mono Hb2.out.size))
  clear hb
  go_wp2_with fail
  refine (digest_any 3 w3 (by omega)).mono ?_
  rintro r w4 ⟨rfl, hb⟩
  have Hb4 := Lib.hid (Hb3.out.trans (hb.mono Hb3.out.size))
  clear hb
  go_wp2_with fail
  refine wp_region_held_drew (S := fun _ => True) (by kernel_rfl) trivial (fun hHeld => ?_)
  refine takeH 0 (some 31) (v := ?_) rfl (by kernel_rfl) (by kernel_rfl) (by kernel_rfl) (by kernel_rfl) (fun _ _ _ h => h) (Or.inl ⟨by kernel_rfl, ?hy⟩) (by assumption) ?_
  case hy =>
    intro w' hSw
    try dsimp only at hSw
    first
      | (go_simp; done)
      | (go_simp; with_reducible rfl)
  simp only [Act.put, List.setIfInBounds_toArray, List.set_cons_zero, List.set_cons_succ]
  refine takeH 1 (some 32) (v := ?_) rfl (by kernel_rfl) (by kernel_rfl) (by kernel_rfl) (by kernel_rfl) (fun _ _ _ h => h) (Or.inl ⟨by kernel_rfl, ?hy⟩) (by assumption) ?_
  case hy =>
    intro w' hSw
    try dsimp only at hSw
    first
      | (go_simp; done)
      | (go_simp; with_reducible rfl)
  simp only [Act.put, List.setIfInBounds_toArray, List.set_cons_zero, List.set_cons_succ]
  refine takeH 2 (some 33) (v := ?_) rfl (by kernel_rfl) (by kernel_rfl) (by kernel_rfl) (by kernel_rfl) (fun _ _ _ h => h) (Or.inl ⟨by kernel_rfl, ?hy⟩) (by assumption) ?_
  case hy =>
    intro w' hSw
    try dsimp only at hSw
    first
      | (go_simp; done)
      | (go_simp; with_reducible rfl)
  simp only [Act.put, List.setIfInBounds_toArray, List.set_cons_zero, List.set_cons_succ]
  refine takeH 4 (some 35) (v := ?_) rfl (by kernel_rfl) (by kernel_rfl) (by kernel_rfl) (by kernel_rfl) (fun _ _ _ h => h) (Or.inl ⟨by kernel_rfl, ?hy⟩) (by assumption) ?_
  case hy =>
    intro w' hSw
    try dsimp only at hSw
    first
      | (go_simp; done)
      | (go_simp; with_reducible rfl)
  simp only [Act.put, List.setIfInBounds_toArray, List.set_cons_zero, List.set_cons_succ]
  refine takeH 5 (some 36) (v := ?_) rfl (by kernel_rfl) (by kernel_rfl) (by kernel_rfl) (by kernel_rfl) (fun _ _ _ h => h) (Or.inl ⟨by kernel_rfl, ?hy⟩) (by assumption) ?_
  case hy =>
    intro w' hSw
    try dsimp only at hSw
    first
      | (go_simp; done)
      | (go_simp; with_reducible rfl)
  simp only [Act.put, List.setIfInBounds_toArray, List.set_cons_zero, List.set_cons_succ]
  refine takeH 6 (some 37) (v := ?_) rfl (by kernel_rfl) (by kernel_rfl) (by kernel_rfl) (by kernel_rfl) (fun _ _ _ h => h) (Or.inl ⟨by kernel_rfl, ?hy⟩) (by assumption) ?_
  case hy =>
    intro w' hSw
    try dsimp only at hSw
    first
      | (go_simp; done)
      | (go_simp; with_reducible rfl)
  simp only [Act.put, List.setIfInBounds_toArray, List.set_cons_zero, List.set_cons_succ]
  refine wpAnyH_ready (rs := [3]) (by kernel_rfl) (by simp) ?_
  refine AllReadyH.cons rfl (fun K hK => ?_) AllReadyH.nil
  rw [if_pos (by kernel_rfl)]
  go_simp
  refine (digest_any m _ (by omega)).mono ?_
  rintro r w5 ⟨rfl, hb⟩
  have Hb5 := Lib.hid (Hb4.out.drew.trans (hb.mono Hb4.out.size))
  clear hb
  refine hK.out _ _ trivial (fun _ => ?_)
  clear hK K
  refine wpAnyH_ready (rs := [7]) (by kernel_rfl) (by simp) ?_
  refine AllReadyH.cons rfl (fun K hK => ?_) AllReadyH.nil
  rw [if_pos (by kernel_rfl)]
  go_simp
  refine (wsignN_any (D8.of 3) (D8.of m) w5).mono ?_
  rintro r w6 ⟨rfl, hb⟩
  have Hb6 := Lib.hid (Hb5.out.trans (hb.mono Hb5.out.size))
  clear hb
  refine hK.out _ _ trivial (fun _ => ?_)
  clear hK K
  refine takeH 8 (some 30) (v := ?_) rfl (by kernel_rfl) (by kernel_rfl) (by kernel_rfl) (by kernel_rfl) (fun _ _ _ h => h) (Or.inl ⟨by kernel_rfl, ?hy⟩) (by assumption) ?_
  case hy =>
    intro w' hSw
    try dsimp only at hSw
    first
      | (go_simp; done)
      | (go_simp; with_reducible rfl)
  simp only [Act.put, List.setIfInBounds_toArray, List.set_cons_zero, List.set_cons_succ]
  refine takeH 9 (some 39) (v := ?_) rfl (by kernel_rfl) (by kernel_rfl) (by kernel_rfl) (by kernel_rfl) (fun _ _ _ h => h) (Or.inl ⟨by kernel_rfl, ?hy⟩) (by assumption) ?_
  case hy =>
    intro w' hSw
    try dsimp only at hSw
    first
      | (go_simp; done)
      | (go_simp; with_reducible rfl)
  simp only [Act.put, List.setIfInBounds_toArray, List.set_cons_zero, List.set_cons_succ]
  refine takeH 10 (some 40) (v := ?_) rfl (by kernel_rfl) (by kernel_rfl) (by kernel_rfl) (by kernel_rfl) (fun _ _ _ h => h) (Or.inl ⟨by kernel_rfl, ?hy⟩) (by assumption) ?_
  case hy =>
    intro w' hSw
    try dsimp only at hSw
    first
      | (go_simp; done)
      | (go_simp; with_reducible rfl)
  simp only [Act.put, List.setIfInBounds_toArray, List.set_cons_zero, List.set_cons_succ]
  refine takeH 11 (some 7) (v := ?_) rfl (by kernel_rfl) (by kernel_rfl) (by kernel_rfl) (by kernel_rfl) (fun _ _ _ h => h) (Or.inl ⟨by kernel_rfl, ?hy⟩) (by assumption) ?_
  case hy =>
    intro w' hSw
    try dsimp only at hSw
    first
      | (go_simp; done)
      | (go_simp; with_reducible rfl)
  simp only [Act.put, List.setIfInBounds_toArray, List.set_cons_zero, List.set_cons_succ]
  refine takeH 12 (some 8) (v := ?_) rfl (by kernel_rfl) (by kernel_rfl) (by kernel_rfl) (by kernel_rfl) (fun _ _ _ h => h) (Or.inl ⟨by kernel_rfl, ?hy⟩) (by assumption) ?_
  case hy =>
    intro w' hSw
    try dsimp only at hSw
    first
      | (go_simp; done)
      | (go_simp; with_reducible rfl)
  simp only [Act.put, List.setIfInBounds_toArray, List.set_cons_zero, List.set_cons_succ]
  refine wpAnyH_done (by kernel_rfl) ?_ _
  clear hna hme hke
  go_wp2
  go_loopw [9, 10, 11] (fun v9 v10 i wr => ∃ (k : Nat) (xs : List Value), k ≤ nw ∧ i = .int .i64 (k : Int) ∧ Hid (wr.ownsRow w6.heap.size 32 8 v9 k (flatD ((ws.take k).map D8.of))) ∧ Hid (wr.ownsRow w6.heap.size 37 1 v10 k xs) ∧ Hid (Below w6.heap.size w6 wr)) (fun _ _ i _ => nw - (Lib.intOf i).toNat)
  case atStart => exact ⟨0, [], Nat.zero_le _, rfl, Lib.hid (World.ownsRow_nil _ _ _ _), Lib.hid (World.ownsRow_nil _ _ _ _), Lib.hid (Below.refl _ _)⟩
  case round =>
    obtain ⟨k, xs, hk, rfl, HO9, HO10, Hb⟩ := hrel
    obtain ⟨A9, c9, rfl⟩ := own_form HO9.out
    obtain ⟨A10, c10, rfl⟩ := own_form HO10.out
    by_cases hlt : k < nw
    · obtain ⟨b, o, rfl, hbB, x1⟩ := Hr.out.byteN hlt
      have hkl : k < ws.length := by have := Hlw.out; omega
      have Htk := Lib.hid (take_nat hkl)
      have hq256 := Hws.out _ (getD_memH hkl)
      generalize ws.getD k 0 = q at *
      have x0 := cell_kept (cell_kept x1 Hb6.out (by omega)) Hb.out (by have := Hb6.out.size; omega)
      have hd3 : decide ((k : Int) < (nw : Int)) = true := decide_eq_true (by omega)
      have hi0 : (0 : Int) ≤ (k : Int) := by omega
      have hki : (k : Int) < (nw : Int) := by omega
      have hwk : IntKind.u64.wrap (q : Int) = (q : Int) := by rw [IntKind.wrap_u64]; omega
      go_wp2_with fail
      refine (digest_any q wr (by omega)).mono ?_
      rintro r v1 ⟨rfl, hb⟩
      have HO9b := Lib.hid ((own_below HO9.out hb).alloc (.cells #[.int .u8 ((D8.of q).x0 : Int), .int .u8 ((D8.of q).x1 : Int), .int .u8 ((D8.of q).x2 : Int), .int .u8 ((D8.of q).x3 : Int), .int .u8 ((D8.of q).x4 : Int), .int .u8 ((D8.of q).x5 : Int), .int .u8 ((D8.of q).x6 : Int), .int .u8 ((D8.of q).x7 : Int)] 32))
      have HO10b := Lib.hid ((own_below HO10.out hb).alloc (.cells #[.int .u8 ((D8.of q).x0 : Int), .int .u8 ((D8.of q).x1 : Int), .int .u8 ((D8.of q).x2 : Int), .int .u8 ((D8.of q).x3 : Int), .int .u8 ((D8.of q).x4 : Int), .int .u8 ((D8.of q).x5 : Int), .int .u8 ((D8.of q).x6 : Int), .int .u8 ((D8.of q).x7 : Int)] 32))
      have Hb2' := Lib.hid ((Hb.out.trans (hb.mono Hb.out.size)).alloc (Nat.le_trans Hb.out.size hb.size) (.cells #[.int .u8 ((D8.of q).x0 : Int), .int .u8 ((D8.of q).x1 : Int), .int .u8 ((D8.of q).x2 : Int), .int .u8 ((D8.of q).x3 : Int), .int .u8 ((D8.of q).x4 : Int), .int .u8 ((D8.of q).x5 : Int), .int .u8 ((D8.of q).x6 : Int), .int .u8 ((D8.of q).x7 : Int)] 32))
      have HR8 : Hid (Rd (v1.alloc (.cells #[.int .u8 ((D8.of q).x0 : Int), .int .u8 ((D8.of q).x1 : Int), .int .u8 ((D8.of q).x2 : Int), .int .u8 ((D8.of q).x3 : Int), .int .u8 ((D8.of q).x4 : Int), .int .u8 ((D8.of q).x5 : Int), .int .u8 ((D8.of q).x6 : Int), .int .u8 ((D8.of q).x7 : Int)] 32)) (v1.alloc (.cells #[.int .u8 ((D8.of q).x0 : Int), .int .u8 ((D8.of q).x1 : Int), .int .u8 ((D8.of q).x2 : Int), .int .u8 ((D8.of q).x3 : Int), .int .u8 ((D8.of q).x4 : Int), .int .u8 ((D8.of q).x5 : Int), .int .u8 ((D8.of q).x6 : Int), .int .u8 ((D8.of q).x7 : Int)] 32)).heap.size 8 (some ⟨v1.heap.size, 0, none⟩) 1 (flatD [D8.of q])) := Rd.newA (n := 1) (sz := 8) (xs := flatD [D8.of q]) v1 32 #[.int .u8 ((D8.of q).x0 : Int), .int .u8 ((D8.of q).x1 : Int), .int .u8 ((D8.of q).x2 : Int), .int .u8 ((D8.of q).x3 : Int), .int .u8 ((D8.of q).x4 : Int), .int .u8 ((D8.of q).x5 : Int), .int .u8 ((D8.of q).x6 : Int), .int .u8 ((D8.of q).x7 : Int)] rfl rfl
      have hl8 : ∀ u ∈ flatD [D8.of q], u.oneCell' = true := by simp [flatD, D8.cells, Value.oneCell']
      have hz8 : w6.heap.size ≤ (v1.alloc (.cells #[.int .u8 ((D8.of q).x0 : Int), .int .u8 ((D8.of q).x1 : Int), .int .u8 ((D8.of q).x2 : Int), .int .u8 ((D8.of q).x3 : Int), .int .u8 ((D8.of q).x4 : Int), .int .u8 ((D8.of q).x5 : Int), .int .u8 ((D8.of q).x6 : Int), .int .u8 ((D8.of q).x7 : Int)] 32)).heap.size := Hb2'.out.size
      clear hb x0 HO9 HO10 x1
      go_wp2_with (first
        | (at_builtin; refine wpList_append_rdg (v1.alloc (.cells #[.int .u8 ((D8.of q).x0 : Int), .int .u8 ((D8.of q).x1 : Int), .int .u8 ((D8.of q).x2 : Int), .int .u8 ((D8.of q).x3 : Int), .int .u8 ((D8.of q).x4 : Int), .int .u8 ((D8.of q).x5 : Int), .int .u8 ((D8.of q).x6 : Int), .int .u8 ((D8.of q).x7 : Int)] 32)) (by rfl) _ _ 48 (by rfl) w6.heap.size 32 iD (.agg #[.int .u8 0, .int .u8 0, .int .u8 0, .int .u8 0, .int .u8 0, .int .u8 0, .int .u8 0, .int .u8 0]) 8 8 HuD.out HID.out rfl (by decide) _ _ _ (by rfl) HO9b.out (v1.alloc (.cells #[.int .u8 ((D8.of q).x0 : Int), .int .u8 ((D8.of q).x1 : Int), .int .u8 ((D8.of q).x2 : Int), .int .u8 ((D8.of q).x3 : Int), .int .u8 ((D8.of q).x4 : Int), .int .u8 ((D8.of q).x5 : Int), .int .u8 ((D8.of q).x6 : Int), .int .u8 ((D8.of q).x7 : Int)] 32)).heap.size (some ⟨v1.heap.size, 0, none⟩) 1 1 (flatD [D8.of q]) (by rfl) HR8.out hl8 (by omega) (by omega) hz8 ?_; go_must (intro u4 w4 ho4 hb4 hg4; obtain ⟨A4, c4, rfl⟩ := own_form ho4; rw [← flatD_append] at ho4; have hgt := GT.of_own HO9b.out hg4; have HO9c := Lib.hid ((ho4.alloc (.cells #[.int .u8 0, .int .u8 0] 5)).alloc (.cells #[.slice (some ⟨w4.heap.size, 0, none⟩) 2 2] 37)); have HO10c := Lib.hid (((hgt.own HO10b.out (by decide)).alloc (.cells #[.int .u8 0, .int .u8 0] 5)).alloc (.cells #[.slice (some ⟨w4.heap.size, 0, none⟩) 2 2] 37)); have hb5 := (((Hb2'.out.trans hb4).alloc (Nat.le_trans hz8 hb4.size) (.cells #[.int .u8 0, .int .u8 0] 5)).alloc (by have := hz8; have := hb4.size; simp; omega) (.cells #[.slice (some ⟨w4.heap.size, 0, none⟩) 2 2] 37)); have Hb5' := Lib.hid hb5; have hz9 := hb5.size; have HR9 : Hid (Rd ((w4.alloc (.cells #[.int .u8 0, .int .u8 0] 5)).alloc (.cells #[.slice (some ⟨w4.heap.size, 0, none⟩) 2 2] 37)) ((w4.alloc (.cells #[.int .u8 0, .int .u8 0] 5)).alloc (.cells #[.slice (some ⟨w4.heap.size, 0, none⟩) 2 2] 37)).heap.size 1 (some ⟨(w4.alloc (.cells #[.int .u8 0, .int .u8 0] 5)).heap.size, 0, none⟩) 1 [.slice (some ⟨w4.heap.size, 0, none⟩) 2 2]) := Rd.newA (n := 1) (sz := 1) (xs := [.slice (some ⟨w4.heap.size, 0, none⟩) 2 2]) (w4.alloc (.cells #[.int .u8 0, .int .u8 0] 5)) 37 #[.slice (some ⟨w4.heap.size, 0, none⟩) 2 2] rfl rfl; have hl9 : ∀ u ∈ [Value.slice (some ⟨w4.heap.size, 0, none⟩) 2 2], u.oneCell' = true := (by simp [Value.oneCell']); simp only [World.size_alloc] at HR9; clear ho4 hb4 hg4 hgt hb5))
        | (at_builtin; refine wpList_append_rdg ((w4.alloc (.cells #[.int .u8 0, .int .u8 0] 5)).alloc (.cells #[.slice (some ⟨w4.heap.size, 0, none⟩) 2 2] 37)) (by rfl) _ _ 65 (by rfl) w6.heap.size 37 iB (.slice none 0 0) 1 24 HuB.out HIB.out rfl (by decide) _ _ _ (by rfl) HO10c.out _ _ 1 1 [.slice (some ⟨w4.heap.size, 0, none⟩) 2 2] (by rfl) HR9.out hl9 (by omega) (by omega) hz9 ?_; go_must (intro u6 w7 ho6 hb6 hg6; obtain ⟨A6, c6, rfl⟩ := own_form ho6; have HO10e := Lib.hid ho6; have hgt := GT.of_own HO10c.out hg6; have HO9e := Lib.hid (hgt.own HO9c.out (by decide)); have Hb7 := Lib.hid (Hb5'.out.trans hb6); clear ho6 hb6 hg6 hgt)))
      go_roundw
      case rel =>
        refine ⟨k + 1, _, hlt, by go_num, ?_, HO10e, Hb7⟩
        rw [Htk.out, List.map_append]; exact HO9e
      case measure => simp [Lib.intOf]; omega
    · obtain rfl : nw = k := by omega
      have hd3 : decide ((nw : Int) < (nw : Int)) = false := by simp
      clear hlt
      obtain ⟨u1, rfl⟩ : ∃ u1 : World, u1 = wr := ⟨_, rfl⟩
      have HG1 := Lib.hid (Hb6.out.trans (Hb.out.mono Hb6.out.size))
      have hnn : ((nw : Int) != (nw : Int)) = false := by simp
      go_wp2_with fail
      refine (digest_any m u1 (by omega)).mono ?_
      rintro r u2 ⟨rfl, hb⟩
      have HO2 := Lib.hid (own_below HO9.out hb)
      have HG2 := Lib.hid (HG1.out.trans (hb.mono HG1.out.size))
      clear hb
      go_wp2_with fail
      refine (missingN_any _ A9 nw c9 (D8.of m) A10 nw c10 u2 (Rd.of_own HO2.out) (by omega)).mono ?_
      rintro r u3 ⟨A12, c12, rfl, hb⟩
      have HG3 := Lib.hid (HG2.out.trans (hb.mono HG2.out.size))
      clear hb
      go_wp2_with fail
      refine (digest_any m u3 (by omega)).mono ?_
      rintro r u4 ⟨rfl, hb⟩
      have HG4 := Lib.hid (HG3.out.trans (hb.mono HG3.out.size))
      clear hb
      have HG5 := Lib.hid (HG4.out.alloc HG4.out.size (.cells #[.nilIface] 29))
      go_wp2_with fail
      refine (gatherN_any (D8.of m) u4.heap.size 1 _ (by simp) (by rw [block_cell (heap_alloc_new u4 _)]; rfl)).mono ?_
      rintro r u6 ⟨rfl, hb⟩
      have HG6 := Lib.hid (HG5.out.trans (hb.mono HG5.out.size))
      clear hb
      go_wp2_with fail
      refine (digest_any 3 u6 (by omega)).mono ?_
      rintro r u7 ⟨rfl, hb⟩
      have HG7 := Lib.hid (HG6.out.trans (hb.mono HG6.out.size))
      clear hb
      go_wp2_with fail
      refine (digest_any m u7 (by omega)).mono ?_
      rintro r u8 ⟨rfl, hb⟩
      have HG8 := Lib.hid (HG7.out.trans (hb.mono HG7.out.size))
      clear hb
      have HG9 := Lib.hid (HG8.out.alloc HG8.out.size (.cells #[.int .u8 0, .int .u8 0] 5))
      go_wp2_with fail
      refine (verifyN_any (D8.of 3) (D8.of m) _ _ _ _).mono ?_
      rintro r u10 ⟨rfl, hb⟩
      have HG10 := Lib.hid (HG9.out.trans (hb.mono HG9.out.size))
      clear hb
      go_wp2_with fail
      refine (digest_any 3 u10 (by omega)).mono ?_
      rintro r u11 ⟨rfl, hb⟩
      have HG11 := Lib.hid (HG10.out.trans (hb.mono HG10.out.size))
      clear hb
      go_wp2_with fail
      refine (signedN_any (D8.of 3) u11).mono ?_
      rintro r u12 ⟨rfl, hb⟩
      have HG12 := Lib.hid (HG11.out.trans (hb.mono HG11.out.size))
      clear hb
      go_wp2_with fail
      refine (cloneN_any u12).mono ?_
      rintro r u13 ⟨rfl, hb⟩
      have HG13 := Lib.hid (HG12.out.trans (hb.mono HG12.out.size))
      clear hb
      go_wp2_with fail
      refine (sameNN_any u13).mono ?_
      rintro r u14 ⟨rfl, hb⟩
      have HG14 := Lib.hid (HG13.out.trans (hb.mono HG13.out.size))
      clear hb
      go_wp2_with fail
      refine (newBook_any u14).mono ?_
      rintro r u15 ⟨rfl, _, hb⟩
      have HG15 := Lib.hid (HG14.out.trans (hb.mono HG14.out.size))
      clear hb
      go_wp2_with fail
      refine (sameNB_any _ u15).mono ?_
      rintro r u16 ⟨rfl, hb⟩
      have HG16 := Lib.hid (HG15.out.trans (hb.mono HG15.out.size))
      clear hb
      go_wp2_with fail
      refine (newBook_any u16).mono ?_
      rintro r u17 ⟨rfl, _, hb⟩
      have HG17 := Lib.hid (HG16.out.trans (hb.mono HG16.out.size))
      clear hb
      go_wp2_with fail
      refine (sameBN_any _ u17).mono ?_
      rintro r u18 ⟨rfl, hb⟩
      have HG18 := Lib.hid (HG17.out.trans (hb.mono HG17.out.size))
      clear hb
      go_wp2_with (go_at_call 10; refine (told_any u18).mono ?_; rintro r9 v9 ⟨rfl, hb9⟩; have Hv9 := Lib.hid (HG18.out.trans (hb9.mono HG18.out.size)); clear hb9)
      go_ret
      exact ⟨rfl, Hv9.out⟩
end Go.Proofs.Ytepdinfopcohiaa
