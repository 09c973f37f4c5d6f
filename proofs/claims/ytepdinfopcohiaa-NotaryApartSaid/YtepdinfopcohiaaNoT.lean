/- The walk of told: what the chapter's example says is so. Condition: none. -/
import Derived.Test.YtepdinfopcohiaaNoI
import Derived.Test.YtepdinfopcohiaaInv
namespace Go.Proofs.Ytepdinfopcohiaa
open Go.RowKit Go.Lib


theorem types_many : Try.prog.types.size + Made.depth = 214 := by kernel_rfl
/-- A signature stays whatever else is signed. -/
theorem sig_kept {w w' : World} {B bk mb g i : Nat} {L : List En} (h : SigAt w g i) (hb : BookAt w B bk mb L) (hk : Kept w w' bk mb) : SigAt w' g i := by
  obtain ⟨A, n, c, h1, _⟩ := hb.book
  refine hk.typed g _ _ _ h (by decide) ?_
  rintro rfl
  rw [show w.heap[g]? = _ from h] at h1
  simp at h1
theorem sig_below {w w' : World} {g i : Nat} (h : SigAt w g i) (hb : Below w.heap.size w w') : SigAt w' g i := block_below h hb (block_lt h)
theorem d8_ok (n : Nat) : (D8.of n).ok := D8.of_ok n
set_option maxRecDepth 100000 in
set_option maxHeartbeats 2000000 in
theorem told_any (w : World) : Calls Try.prog 10 #[] w fun r w' => r = .returned (.bool true) ∧ Below w.heap.size w w' := by
  have hna := fun k => nil_sign (w.heap.size + 1) k
  have hme := fun k => meth_sign (w.heap.size + 1) k
  have hke := fun k => meth_key (w.heap.size + 1) k
  rw [types_many] at hna hme hke
  go_enter Try.func10, Try.ntmps10
  go_wp2_with fail
  refine (newBook_any w).mono ?_
  rintro r w1 ⟨rfl, hB1, hb1⟩
  have HB1 := Lib.hid hB1; have Hb1 := Lib.hid hb1; clear hB1 hb1
  go_wp2_with fail
  refine (digest_any 5 w1 (by omega)).mono ?_
  rintro r w2 ⟨rfl, hb2⟩
  have HB2 := Lib.hid (HB1.out.below hb2)
  have Hb2 := Lib.hid (Hb1.out.trans (hb2.mono Hb1.out.size))
  clear HB1 Hb1 hb2
  go_wp2_with fail
  refine (signer_any _ _ w2).mono ?_
  rintro r w3 ⟨rfl, hb3⟩
  have HB3 := Lib.hid (HB2.out.below hb3)
  have Hb3 := Lib.hid (Hb2.out.trans (hb3.mono Hb2.out.size))
  clear HB2 Hb2 hb3
  go_wp2_with fail
  refine (digest_any 7 w3 (by omega)).mono ?_
  rintro r w4 ⟨rfl, hb4⟩
  have HB4 := Lib.hid (HB3.out.below hb4)
  have Hb4 := Lib.hid (Hb3.out.trans (hb4.mono Hb3.out.size))
  clear HB3 Hb3 hb4
  go_wp2_with fail
  refine (signer_any _ _ w4).mono ?_
  rintro r w5 ⟨rfl, hb5⟩
  have HB5 := Lib.hid (HB4.out.below hb5)
  have Hb5 := Lib.hid (Hb4.out.trans (hb5.mono Hb4.out.size))
  clear HB4 Hb4 hb5
  go_wp2
  refine wp_region_held_drew (S := fun _ => True) (by kernel_rfl) trivial (fun hHeld => ?_)
  refine takeH 0 (some 26) (v := ?_) rfl (by kernel_rfl) (by kernel_rfl) (by kernel_rfl) (by kernel_rfl) (fun _ _ _ h => h) (Or.inl ⟨by kernel_rfl, ?hy⟩) (by assumption) ?_
  case hy =>
    intro w' hSw
    try dsimp only at hSw
    first
      | (go_simp; done)
      | (go_simp; with_reducible rfl)
  simp only [Act.put, List.setIfInBounds_toArray, List.set_cons_zero, List.set_cons_succ]
  refine takeH 2 (some 28) (v := ?_) rfl (by kernel_rfl) (by kernel_rfl) (by kernel_rfl) (by kernel_rfl) (fun _ _ _ h => h) (Or.inl ⟨by kernel_rfl, ?hy⟩) (by assumption) ?_
  case hy =>
    intro w' hSw
    try dsimp only at hSw
    first
      | (go_simp; done)
      | (go_simp; with_reducible rfl)
  simp only [Act.put, List.setIfInBounds_toArray, List.set_cons_zero, List.set_cons_succ]
  refine takeH 3 (some 29) (v := ?_) rfl (by kernel_rfl) (by kernel_rfl) (by kernel_rfl) (by kernel_rfl) (fun _ _ _ h => h) (Or.inl ⟨by kernel_rfl, ?hy⟩) (by assumption) ?_
  case hy =>
    intro w' hSw
    try dsimp only at hSw
    first
      | (go_simp; done)
      | (go_simp; with_reducible rfl)
  simp only [Act.put, List.setIfInBounds_toArray, List.set_cons_zero, List.set_cons_succ]
  refine takeH 4 (some 30) (v := ?_) rfl (by kernel_rfl) (by kernel_rfl) (by kernel_rfl) (by kernel_rfl) (fun _ _ _ h => h) (Or.inl ⟨by kernel_rfl, ?hy⟩) (by assumption) ?_
  case hy =>
    intro w' hSw
    try dsimp only at hSw
    first
      | (go_simp; done)
      | (go_simp; with_reducible rfl)
  simp only [Act.put, List.setIfInBounds_toArray, List.set_cons_zero, List.set_cons_succ]
  refine wpAnyH_ready (rs := [1]) (by kernel_rfl) (by simp) ?_
  refine AllReadyH.cons rfl (fun K hK => ?_) AllReadyH.nil
  rw [if_pos (by kernel_rfl)]
  go_simp
  refine (digest_any 1 _ (by omega)).mono ?_
  rintro r w6 ⟨rfl, hb6⟩; have hb6' := (Below.refl _ _).drew.trans hb6; have HB6 := Lib.hid (HB5.out.below hb6'); have Hb6 := Lib.hid (Hb5.out.trans (hb6'.mono Hb5.out.size)); clear HB5 Hb5 hb6 hb6'
  refine hK.out _ _ trivial (fun _ => ?_)
  clear hK K
  refine wpAnyH_ready (rs := [5]) (by kernel_rfl) (by simp) ?_
  refine AllReadyH.cons rfl (fun K hK => ?_) AllReadyH.nil
  rw [if_pos (by kernel_rfl)]
  go_simp
  refine (wsign_any _ _ _ _ (D8.of 5) (D8.of 1) _ HB6.out (d8_ok _) (d8_ok _) (by decide)).mono ?_
  rintro r w7 ⟨g1, rfl, h71, h72, h73, h74⟩; have HS7 := Lib.hid h72; have HB7 := Lib.hid h73; have HK7 := Lib.hid h74; have Hg7 := Lib.hid h71; clear h71 h72 h73 h74
  refine hK.out _ _ trivial (fun _ => ?_)
  clear hK K
  refine takeH 6 (some 25) (v := ?_) rfl (by kernel_rfl) (by kernel_rfl) (by kernel_rfl) (by kernel_rfl) (fun _ _ _ h => h) (Or.inl ⟨by kernel_rfl, ?hy⟩) (by assumption) ?_
  case hy =>
    intro w' hSw
    try dsimp only at hSw
    first
      | (go_simp; done)
      | (go_simp; with_reducible rfl)
  simp only [Act.put, List.setIfInBounds_toArray, List.set_cons_zero, List.set_cons_succ]
  refine takeH 7 (some 32) (v := ?_) rfl (by kernel_rfl) (by kernel_rfl) (by kernel_rfl) (by kernel_rfl) (fun _ _ _ h => h) (Or.inl ⟨by kernel_rfl, ?hy⟩) (by assumption) ?_
  case hy =>
    intro w' hSw
    try dsimp only at hSw
    first
      | (go_simp; done)
      | (go_simp; with_reducible rfl)
  simp only [Act.put, List.setIfInBounds_toArray, List.set_cons_zero, List.set_cons_succ]
  refine takeH 8 (some 33) (v := ?_) rfl (by kernel_rfl) (by kernel_rfl) (by kernel_rfl) (by kernel_rfl) (fun _ _ _ h => h) (Or.inl ⟨by kernel_rfl, ?hy⟩) (by assumption) ?_
  case hy =>
    intro w' hSw
    try dsimp only at hSw
    first
      | (go_simp; done)
      | (go_simp; with_reducible rfl)
  simp only [Act.put, List.setIfInBounds_toArray, List.set_cons_zero, List.set_cons_succ]
  refine takeH 9 (some 4) (v := ?_) rfl (by kernel_rfl) (by kernel_rfl) (by kernel_rfl) (by kernel_rfl) (fun _ _ _ h => h) (Or.inl ⟨by kernel_rfl, ?hy⟩) (by assumption) ?_
  case hy =>
    intro w' hSw
    try dsimp only at hSw
    first
      | (go_simp; done)
      | (go_simp; with_reducible rfl)
  simp only [Act.put, List.setIfInBounds_toArray, List.set_cons_zero, List.set_cons_succ]
  refine takeH 10 (some 5) (v := ?_) rfl (by kernel_rfl) (by kernel_rfl) (by kernel_rfl) (by kernel_rfl) (fun _ _ _ h => h) (Or.inl ⟨by kernel_rfl, ?hy⟩) (by assumption) ?_
  case hy =>
    intro w' hSw
    try dsimp only at hSw
    first
      | (go_simp; done)
      | (go_simp; with_reducible rfl)
  simp only [Act.put, List.setIfInBounds_toArray, List.set_cons_zero, List.set_cons_succ]
  refine wpAnyH_done (by kernel_rfl) ?_ _
  go_wp2
  refine wp_region_held_drew (S := fun _ => True) (by kernel_rfl) trivial (fun hHeld => ?_)
  refine takeH 0 (some 35) (v := ?_) rfl (by kernel_rfl) (by kernel_rfl) (by kernel_rfl) (by kernel_rfl) (fun _ _ _ h => h) (Or.inl ⟨by kernel_rfl, ?hy⟩) (by assumption) ?_
  case hy =>
    intro w' hSw
    try dsimp only at hSw
    first
      | (go_simp; done)
      | (go_simp; with_reducible rfl)
  simp only [Act.put, List.setIfInBounds_toArray, List.set_cons_zero, List.set_cons_succ]
  refine takeH 2 (some 37) (v := ?_) rfl (by kernel_rfl) (by kernel_rfl) (by kernel_rfl) (by kernel_rfl) (fun _ _ _ h => h) (Or.inl ⟨by kernel_rfl, ?hy⟩) (by assumption) ?_
  case hy =>
    intro w' hSw
    try dsimp only at hSw
    first
      | (go_simp; done)
      | (go_simp; with_reducible rfl)
  simp only [Act.put, List.setIfInBounds_toArray, List.set_cons_zero, List.set_cons_succ]
  refine takeH 3 (some 38) (v := ?_) rfl (by kernel_rfl) (by kernel_rfl) (by kernel_rfl) (by kernel_rfl) (fun _ _ _ h => h) (Or.inl ⟨by kernel_rfl, ?hy⟩) (by assumption) ?_
  case hy =>
    intro w' hSw
    try dsimp only at hSw
    first
      | (go_simp; done)
      | (go_simp; with_reducible rfl)
  simp only [Act.put, List.setIfInBounds_toArray, List.set_cons_zero, List.set_cons_succ]
  refine takeH 4 (some 39) (v := ?_) rfl (by kernel_rfl) (by kernel_rfl) (by kernel_rfl) (by kernel_rfl) (fun _ _ _ h => h) (Or.inl ⟨by kernel_rfl, ?hy⟩) (by assumption) ?_
  case hy =>
    intro w' hSw
    try dsimp only at hSw
    first
      | (go_simp; done)
      | (go_simp; with_reducible rfl)
  simp only [Act.put, List.setIfInBounds_toArray, List.set_cons_zero, List.set_cons_succ]
  refine wpAnyH_ready (rs := [1]) (by kernel_rfl) (by simp) ?_
  refine AllReadyH.cons rfl (fun K hK => ?_) AllReadyH.nil
  rw [if_pos (by kernel_rfl)]
  go_simp
  refine (digest_any 1 _ (by omega)).mono ?_
  rintro r w8 ⟨rfl, hb8⟩; have hb8' := (Below.refl _ _).drew.trans hb8; have HB8 := Lib.hid (HB7.out.below hb8'); have Hb8 := Lib.hid hb8'; have HS8 := Lib.hid (sig_below HS7.out hb8'); clear HB7 HS7 hb8 hb8'
  refine hK.out _ _ trivial (fun _ => ?_)
  clear hK K
  refine wpAnyH_ready (rs := [5]) (by kernel_rfl) (by simp) ?_
  refine AllReadyH.cons rfl (fun K hK => ?_) AllReadyH.nil
  rw [if_pos (by kernel_rfl)]
  go_simp
  refine (wsign_any _ _ _ _ (D8.of 7) (D8.of 1) _ HB8.out (d8_ok _) (d8_ok _) (by decide)).mono ?_
  rintro r w9 ⟨g2, rfl, h71, h72, h73, h74⟩; have HT9 := Lib.hid h72; have HB9 := Lib.hid h73; have HK9 := Lib.hid h74; have HS9 := Lib.hid (sig_kept HS8.out HB8.out h74); have Hg9 := Lib.hid h71; clear HB8 HS8 h71 h72 h73 h74
  refine hK.out _ _ trivial (fun _ => ?_)
  clear hK K
  refine takeH 6 (some 34) (v := ?_) rfl (by kernel_rfl) (by kernel_rfl) (by kernel_rfl) (by kernel_rfl) (fun _ _ _ h => h) (Or.inl ⟨by kernel_rfl, ?hy⟩) (by assumption) ?_
  case hy =>
    intro w' hSw
    try dsimp only at hSw
    first
      | (go_simp; done)
      | (go_simp; with_reducible rfl)
  simp only [Act.put, List.setIfInBounds_toArray, List.set_cons_zero, List.set_cons_succ]
  refine takeH 7 (some 41) (v := ?_) rfl (by kernel_rfl) (by kernel_rfl) (by kernel_rfl) (by kernel_rfl) (fun _ _ _ h => h) (Or.inl ⟨by kernel_rfl, ?hy⟩) (by assumption) ?_
  case hy =>
    intro w' hSw
    try dsimp only at hSw
    first
      | (go_simp; done)
      | (go_simp; with_reducible rfl)
  simp only [Act.put, List.setIfInBounds_toArray, List.set_cons_zero, List.set_cons_succ]
  refine takeH 8 (some 42) (v := ?_) rfl (by kernel_rfl) (by kernel_rfl) (by kernel_rfl) (by kernel_rfl) (fun _ _ _ h => h) (Or.inl ⟨by kernel_rfl, ?hy⟩) (by assumption) ?_
  case hy =>
    intro w' hSw
    try dsimp only at hSw
    first
      | (go_simp; done)
      | (go_simp; with_reducible rfl)
  simp only [Act.put, List.setIfInBounds_toArray, List.set_cons_zero, List.set_cons_succ]
  refine takeH 9 (some 6) (v := ?_) rfl (by kernel_rfl) (by kernel_rfl) (by kernel_rfl) (by kernel_rfl) (fun _ _ _ h => h) (Or.inl ⟨by kernel_rfl, ?hy⟩) (by assumption) ?_
  case hy =>
    intro w' hSw
    try dsimp only at hSw
    first
      | (go_simp; done)
      | (go_simp; with_reducible rfl)
  simp only [Act.put, List.setIfInBounds_toArray, List.set_cons_zero, List.set_cons_succ]
  refine takeH 10 (some 7) (v := ?_) rfl (by kernel_rfl) (by kernel_rfl) (by kernel_rfl) (by kernel_rfl) (fun _ _ _ h => h) (Or.inl ⟨by kernel_rfl, ?hy⟩) (by assumption) ?_
  case hy =>
    intro w' hSw
    try dsimp only at hSw
    first
      | (go_simp; done)
      | (go_simp; with_reducible rfl)
  simp only [Act.put, List.setIfInBounds_toArray, List.set_cons_zero, List.set_cons_succ]
  refine wpAnyH_done (by kernel_rfl) ?_ _
  go_wp2
  refine wp_region_held_drew (S := fun _ => True) (by kernel_rfl) trivial (fun hHeld => ?_)
  refine takeH 0 (some 44) (v := ?_) rfl (by kernel_rfl) (by kernel_rfl) (by kernel_rfl) (by kernel_rfl) (fun _ _ _ h => h) (Or.inl ⟨by kernel_rfl, ?hy⟩) (by assumption) ?_
  case hy =>
    intro w' hSw
    try dsimp only at hSw
    first
      | (go_simp; done)
      | (go_simp; with_reducible rfl)
  simp only [Act.put, List.setIfInBounds_toArray, List.set_cons_zero, List.set_cons_succ]
  refine takeH 2 (some 46) (v := ?_) rfl (by kernel_rfl) (by kernel_rfl) (by kernel_rfl) (by kernel_rfl) (fun _ _ _ h => h) (Or.inl ⟨by kernel_rfl, ?hy⟩) (by assumption) ?_
  case hy =>
    intro w' hSw
    try dsimp only at hSw
    first
      | (go_simp; done)
      | (go_simp; with_reducible rfl)
  simp only [Act.put, List.setIfInBounds_toArray, List.set_cons_zero, List.set_cons_succ]
  refine takeH 3 (some 47) (v := ?_) rfl (by kernel_rfl) (by kernel_rfl) (by kernel_rfl) (by kernel_rfl) (fun _ _ _ h => h) (Or.inl ⟨by kernel_rfl, ?hy⟩) (by assumption) ?_
  case hy =>
    intro w' hSw
    try dsimp only at hSw
    first
      | (go_simp; done)
      | (go_simp; with_reducible rfl)
  simp only [Act.put, List.setIfInBounds_toArray, List.set_cons_zero, List.set_cons_succ]
  refine takeH 4 (some 48) (v := ?_) rfl (by kernel_rfl) (by kernel_rfl) (by kernel_rfl) (by kernel_rfl) (fun _ _ _ h => h) (Or.inl ⟨by kernel_rfl, ?hy⟩) (by assumption) ?_
  case hy =>
    intro w' hSw
    try dsimp only at hSw
    first
      | (go_simp; done)
      | (go_simp; with_reducible rfl)
  simp only [Act.put, List.setIfInBounds_toArray, List.set_cons_zero, List.set_cons_succ]
  refine wpAnyH_ready (rs := [1]) (by kernel_rfl) (by simp) ?_
  refine AllReadyH.cons rfl (fun K hK => ?_) AllReadyH.nil
  rw [if_pos (by kernel_rfl)]
  go_simp
  refine (digest_any 1 _ (by omega)).mono ?_
  rintro r w10 ⟨rfl, hb8⟩; have hb8' := (Below.refl _ _).drew.trans hb8; have HB10 := Lib.hid (HB9.out.below hb8'); have Hb10 := Lib.hid hb8'; have HS10 := Lib.hid (sig_below HS9.out hb8'); have HT10 := Lib.hid (sig_below HT9.out hb8'); clear HB9 HS9 HT9 hb8 hb8'
  refine hK.out _ _ trivial (fun _ => ?_)
  clear hK K
  refine wpAnyH_ready (rs := [5]) (by kernel_rfl) (by simp) ?_
  refine AllReadyH.cons rfl (fun K hK => ?_) AllReadyH.nil
  rw [if_pos (by kernel_rfl)]
  go_simp
  refine (wsign_any _ _ _ _ (D8.of 5) (D8.of 1) _ HB10.out (d8_ok _) (d8_ok _) (by decide)).mono ?_
  rintro r w11 ⟨g3, rfl, h71, h72, h73, h74⟩; have HU := Lib.hid h72; have HB11 := Lib.hid h73; have HK11 := Lib.hid h74; have HS11 := Lib.hid (sig_kept HS10.out HB10.out h74); have HT11 := Lib.hid (sig_kept HT10.out HB10.out h74); have Hg11 := Lib.hid h71; clear HB10 HS10 HT10 h71 h72 h73 h74
  refine hK.out _ _ trivial (fun _ => ?_)
  clear hK K
  refine takeH 6 (some 43) (v := ?_) rfl (by kernel_rfl) (by kernel_rfl) (by kernel_rfl) (by kernel_rfl) (fun _ _ _ h => h) (Or.inl ⟨by kernel_rfl, ?hy⟩) (by assumption) ?_
  case hy =>
    intro w' hSw
    try dsimp only at hSw
    first
      | (go_simp; done)
      | (go_simp; with_reducible rfl)
  simp only [Act.put, List.setIfInBounds_toArray, List.set_cons_zero, List.set_cons_succ]
  refine takeH 7 (some 50) (v := ?_) rfl (by kernel_rfl) (by kernel_rfl) (by kernel_rfl) (by kernel_rfl) (fun _ _ _ h => h) (Or.inl ⟨by kernel_rfl, ?hy⟩) (by assumption) ?_
  case hy =>
    intro w' hSw
    try dsimp only at hSw
    first
      | (go_simp; done)
      | (go_simp; with_reducible rfl)
  simp only [Act.put, List.setIfInBounds_toArray, List.set_cons_zero, List.set_cons_succ]
  refine takeH 8 (some 51) (v := ?_) rfl (by kernel_rfl) (by kernel_rfl) (by kernel_rfl) (by kernel_rfl) (fun _ _ _ h => h) (Or.inl ⟨by kernel_rfl, ?hy⟩) (by assumption) ?_
  case hy =>
    intro w' hSw
    try dsimp only at hSw
    first
      | (go_simp; done)
      | (go_simp; with_reducible rfl)
  simp only [Act.put, List.setIfInBounds_toArray, List.set_cons_zero, List.set_cons_succ]
  refine takeH 9 (some 8) (v := ?_) rfl (by kernel_rfl) (by kernel_rfl) (by kernel_rfl) (by kernel_rfl) (fun _ _ _ h => h) (Or.inl ⟨by kernel_rfl, ?hy⟩) (by assumption) ?_
  case hy =>
    intro w' hSw
    try dsimp only at hSw
    first
      | (go_simp; done)
      | (go_simp; with_reducible rfl)
  simp only [Act.put, List.setIfInBounds_toArray, List.set_cons_zero, List.set_cons_succ]
  refine takeH 10 (some 9) (v := ?_) rfl (by kernel_rfl) (by kernel_rfl) (by kernel_rfl) (by kernel_rfl) (fun _ _ _ h => h) (Or.inl ⟨by kernel_rfl, ?hy⟩) (by assumption) ?_
  case hy =>
    intro w' hSw
    try dsimp only at hSw
    first
      | (go_simp; done)
      | (go_simp; with_reducible rfl)
  simp only [Act.put, List.setIfInBounds_toArray, List.set_cons_zero, List.set_cons_succ]
  refine wpAnyH_done (by kernel_rfl) ?_ _
  go_wp2
  have e1 : (signE [] ⟨D8.of 5, D8.of 1⟩).2 = 0 := by decide
  have e2 : (signE (signE [] ⟨D8.of 5, D8.of 1⟩).1 ⟨D8.of 7, D8.of 1⟩).2 = 1 := by decide
  have e3 : (signE (signE (signE [] ⟨D8.of 5, D8.of 1⟩).1 ⟨D8.of 7, D8.of 1⟩).1 ⟨D8.of 5, D8.of 1⟩).2 = 0 := by decide
  rw [e1] at HS11
  rw [e2] at HT11
  rw [e3] at HU
  clear e1 e2 e3
  have c1 := conv_sig HS11.out 2
  have c2 := conv_sig HT11.out 2
  have c3 := conv_sig HU.out 2
  have s0 : (strNo (sigL 0)).toList = [0, 0] := by rw [ByteArray.toList_eq]; simp only [strNo, strOfNums_data]; rfl
  have s1 : (strNo (sigL 1)).toList = [1, 0] := by rw [ByteArray.toList_eq]; simp only [strNo, strOfNums_data]; rfl
  have hb7 := HK7.out.below (B := w.heap.size) (by omega) (Nat.le_refl _)
  have hb9 := HK9.out.below (B := w.heap.size) (by omega) (Nat.le_refl _)
  have hb11 := HK11.out.below (B := w.heap.size) (by omega) (Nat.le_refl _)
  have t7 := Hb6.out.trans hb7
  have t8 := t7.trans (Hb8.out.mono t7.size)
  have t9 := t8.trans hb9
  have t10 := t9.trans (Hb10.out.mono t9.size)
  have Hb := Lib.hid (t10.trans hb11)
  have heq := eql_dig
  have hself : eqI [((D8.of 5).x0 : Int), ((D8.of 5).x1 : Int), ((D8.of 5).x2 : Int), ((D8.of 5).x3 : Int), ((D8.of 5).x4 : Int), ((D8.of 5).x5 : Int), ((D8.of 5).x6 : Int), ((D8.of 5).x7 : Int)] [((D8.of 5).x0 : Int), ((D8.of 5).x1 : Int), ((D8.of 5).x2 : Int), ((D8.of 5).x3 : Int), ((D8.of 5).x4 : Int), ((D8.of 5).x5 : Int), ((D8.of 5).x6 : Int), ((D8.of 5).x7 : Int)] = true := by decide
  clear hna hme hb7 hb9 hb11 t7 t8 t9 t10
  go_wp2_with (first
    | (rw [c1]; simp only [Result.andThen_ok])
    | (rw [c2]; simp only [Result.andThen_ok])
    | (rw [c3]; simp only [Result.andThen_ok])
    | (go_at_call 51; refine (key_any (D8.of 5) _ w11).mono ?_; rintro r w12 ⟨rfl, hb12⟩; have Hb12 := Lib.hid (Hb.out.trans (hb12.mono Hb.out.size)); clear hb12)
    | (go_at_call 13; refine (digest_any 5 w12 (by omega)).mono ?_; rintro r w13 ⟨rfl, hb13⟩; have Hb13 := Lib.hid (Hb12.out.trans (hb13.mono Hb12.out.size)); clear hb13))
  go_ret
  exact ⟨rfl, Hb13.out⟩
end Go.Proofs.Ytepdinfopcohiaa
